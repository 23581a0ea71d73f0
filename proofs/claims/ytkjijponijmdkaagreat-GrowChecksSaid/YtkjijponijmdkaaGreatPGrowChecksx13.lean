-- PRINTED BY print.sh 35421559b90ae4d0a3588c463048766b98c2df88dd9212a6774a882060cdf62d: not written by this session
import Derived.Test.YtkjijponijmdkaaGreatPGrowChecksx0
import Derived.Test.YtkjijponijmdkaaGreatPGrowChecksx12
namespace Go.Proofs.YtkjijponijmdkaaGreat.PGrowChecks
open Go.RowKit Go.Proofs.YtkjijponijmdkaaGreatW.PrintWords Go.Proofs.YtkjijponijmdkaaGreatW.PrintLast Go.Proofs.YtkjijponijmdkaaGreatW.PrintMore
attribute [local go_sem] max2_int min2_int max_two min_two max_three min_three max_four min_four   -- for this text's walks alone
set_option linter.unusedVariables false
set_option linter.unusedSimpArgs false

/-! ### hornbeamref19_Check: function 13 -/
mutual
def hornbeamref19_Check.j0 : Nat → Bool → Int → Int → Int → Int → Int → Int → Int → Int → Int → List Int → List Int → List Int → Option (Int)
  | 0, _, _, _, _, _, _, _, _, _, _, _, _, _ => none
  | k + 1, x28, x312000, x312001, x312002, x312003, x312004, x312005, x312006, x312007, x312008, x312009, x312010, x312011 => if x28 = true then (some 8) else (hornbeamref19_Check.l0 k 1048576 false 0 x312000 x312001 x312002 x312003 x312004 x312005 x312006 x312007 x312008 x312009 x312010 x312011)
def hornbeamref19_Check.l0 : Nat → Int → Bool → Int → Int → Int → Int → Int → Int → Int → Int → Int → Int → List Int → List Int → List Int → Option (Int)
  | 0, _, _, _, _, _, _, _, _, _, _, _, _, _, _, _ => none
  | k + 1, x3, x4, x5, x312000, x312001, x312002, x312003, x312004, x312005, x312006, x312007, x312008, x312009, x312010, x312011 => if x5 < x312007 then (if 0 ≤ x5 then (if x5 < (x312011.length : Int) then (if (rd x312011 x5) < 0 then (some 1) else (if x5 < (x312010.length : Int) then ((hornbeamref09_Target.f k x312000 x312001 x312002 x312003 x312004 x312005 x312006 (rd x312010 x5)).bind fun t315 => (if t315 = 0 then (hornbeamref19_Check.l1 k x3 x4 x5 0 x312000 x312001 x312002 x312003 x312004 x312005 x312006 x312007 x312008 x312009 x312010 x312011) else (some t315))) else (none))) else (none)) else (none)) else (if x4 = true then (some 4) else (if x3 = 1048576 then (some 1) else (some 0)))
def hornbeamref19_Check.l1 : Nat → Int → Bool → Int → Int → Int → Int → Int → Int → Int → Int → Int → Int → Int → List Int → List Int → List Int → Option (Int)
  | 0, _, _, _, _, _, _, _, _, _, _, _, _, _, _, _, _ => none
  | k + 1, x3, x4, x5, x7, x312000, x312001, x312002, x312003, x312004, x312005, x312006, x312007, x312008, x312009, x312010, x312011 => if x7 < x312008 then ((hornbeamref11_Cell.f x312007 x312008 x312009 x5 x7).bind fun t316 => (if t316 > x312002 then (some 5) else (hornbeamref19_Check.l1 k x3 x4 x5 (wrap64 (x7 + 1)) x312000 x312001 x312002 x312003 x312004 x312005 x312006 x312007 x312008 x312009 x312010 x312011))) else (if 0 ≤ x5 then (if x5 < (x312011.length : Int) then (if (rd x312011 x5) > x3 then (hornbeamref19_Check.l0 k x3 true (wrap64 (x5 + 1)) x312000 x312001 x312002 x312003 x312004 x312005 x312006 x312007 x312008 x312009 x312010 x312011) else (hornbeamref19_Check.l0 k (wrap64 (x3 - (rd x312011 x5))) x4 (wrap64 (x5 + 1)) x312000 x312001 x312002 x312003 x312004 x312005 x312006 x312007 x312008 x312009 x312010 x312011)) else (none)) else (none))
end
def hornbeamref19_Check.f (k : Nat) (a0_0 : Int) (a0_1 : Int) (a0_2 : Int) (a0_3 : Int) (a0_4 : Int) (a0_5 : Int) (a0_6 : Int) (a0_7 : Int) (a0_8 : Int) (l0_9 : List Int) (l0_10 : List Int) (l0_11 : List Int) : Option (Int) := (hornbeamref13_Right.f k a0_0 a0_1 a0_2 a0_3 a0_4 a0_5 a0_6 a0_7 a0_8 l0_9 l0_10 l0_11).bind fun t312 => (if t312 = true then (if a0_7 < 1 then (hornbeamref19_Check.j0 k true a0_0 a0_1 a0_2 a0_3 a0_4 a0_5 a0_6 a0_7 a0_8 l0_9 l0_10 l0_11) else (if a0_8 < 1 then (hornbeamref19_Check.j0 k true a0_0 a0_1 a0_2 a0_3 a0_4 a0_5 a0_6 a0_7 a0_8 l0_9 l0_10 l0_11) else (hornbeamref19_Check.j0 k (decide (a0_8 > 1024)) a0_0 a0_1 a0_2 a0_3 a0_4 a0_5 a0_6 a0_7 a0_8 l0_9 l0_10 l0_11))) else (hornbeamref19_Check.j0 k true a0_0 a0_1 a0_2 a0_3 a0_4 a0_5 a0_6 a0_7 a0_8 l0_9 l0_10 l0_11))
theorem hornbeamref19_Check.mono_l : ∀ k, (∀ y0 y1 y2 y3 y4 y5 y6 y7 y8 y9 y10 y11 y12, LeO (hornbeamref19_Check.j0 k y0 y1 y2 y3 y4 y5 y6 y7 y8 y9 y10 y11 y12) (hornbeamref19_Check.j0 (k + 1) y0 y1 y2 y3 y4 y5 y6 y7 y8 y9 y10 y11 y12)) ∧ (∀ y0 y1 y2 y3 y4 y5 y6 y7 y8 y9 y10 y11 y12 y13 y14, LeO (hornbeamref19_Check.l0 k y0 y1 y2 y3 y4 y5 y6 y7 y8 y9 y10 y11 y12 y13 y14) (hornbeamref19_Check.l0 (k + 1) y0 y1 y2 y3 y4 y5 y6 y7 y8 y9 y10 y11 y12 y13 y14)) ∧ (∀ y0 y1 y2 y3 y4 y5 y6 y7 y8 y9 y10 y11 y12 y13 y14 y15, LeO (hornbeamref19_Check.l1 k y0 y1 y2 y3 y4 y5 y6 y7 y8 y9 y10 y11 y12 y13 y14 y15) (hornbeamref19_Check.l1 (k + 1) y0 y1 y2 y3 y4 y5 y6 y7 y8 y9 y10 y11 y12 y13 y14 y15))
  | 0 => ⟨fun _ _ _ _ _ _ _ _ _ _ _ _ _ r h => by simp [hornbeamref19_Check.j0] at h, fun _ _ _ _ _ _ _ _ _ _ _ _ _ _ _ r h => by simp [hornbeamref19_Check.l0] at h, fun _ _ _ _ _ _ _ _ _ _ _ _ _ _ _ _ r h => by simp [hornbeamref19_Check.l1] at h⟩
  | k + 1 => by
    obtain ⟨ih0, ih1, ih2⟩ := hornbeamref19_Check.mono_l k
    refine ⟨?_, ?_, ?_⟩
    · intro y0 y1 y2 y3 y4 y5 y6 y7 y8 y9 y10 y11 y12
      unfold hornbeamref19_Check.j0
      repeat' first
      | (with_reducible exact ih0 _ _ _ _ _ _ _ _ _ _ _ _ _)
      | (with_reducible exact ih1 _ _ _ _ _ _ _ _ _ _ _ _ _ _ _)
      | (with_reducible exact ih2 _ _ _ _ _ _ _ _ _ _ _ _ _ _ _ _)
      | (with_reducible exact hornbeamref09_Target.mono _ _ _ _ _ _ _ _ _)
      | (with_reducible exact hornbeamref13_Right.mono _ _ _ _ _ _ _ _ _ _ _ _ _)
      | (with_reducible exact LeO.refl _)
      | (with_reducible exact LeO.none _)
      | (with_reducible refine LeO.ite ?_ ?_)
      | (with_reducible refine LeO.bind ?_ (fun _ => ?_))
      | exact ih0 _ _ _ _ _ _ _ _ _ _ _ _ _
      | exact ih1 _ _ _ _ _ _ _ _ _ _ _ _ _ _ _
      | exact ih2 _ _ _ _ _ _ _ _ _ _ _ _ _ _ _ _
      | exact hornbeamref09_Target.mono _ _ _ _ _ _ _ _ _
      | exact hornbeamref13_Right.mono _ _ _ _ _ _ _ _ _ _ _ _ _
      | exact LeO.none _
      | refine LeO.ite ?_ ?_
      | refine LeO.bind ?_ (fun _ => ?_)
    · intro y0 y1 y2 y3 y4 y5 y6 y7 y8 y9 y10 y11 y12 y13 y14
      unfold hornbeamref19_Check.l0
      repeat' first
      | (with_reducible exact ih0 _ _ _ _ _ _ _ _ _ _ _ _ _)
      | (with_reducible exact ih1 _ _ _ _ _ _ _ _ _ _ _ _ _ _ _)
      | (with_reducible exact ih2 _ _ _ _ _ _ _ _ _ _ _ _ _ _ _ _)
      | (with_reducible exact hornbeamref09_Target.mono _ _ _ _ _ _ _ _ _)
      | (with_reducible exact hornbeamref13_Right.mono _ _ _ _ _ _ _ _ _ _ _ _ _)
      | (with_reducible exact LeO.refl _)
      | (with_reducible exact LeO.none _)
      | (with_reducible refine LeO.ite ?_ ?_)
      | (with_reducible refine LeO.bind ?_ (fun _ => ?_))
      | exact ih0 _ _ _ _ _ _ _ _ _ _ _ _ _
      | exact ih1 _ _ _ _ _ _ _ _ _ _ _ _ _ _ _
      | exact ih2 _ _ _ _ _ _ _ _ _ _ _ _ _ _ _ _
      | exact hornbeamref09_Target.mono _ _ _ _ _ _ _ _ _
      | exact hornbeamref13_Right.mono _ _ _ _ _ _ _ _ _ _ _ _ _
      | exact LeO.none _
      | refine LeO.ite ?_ ?_
      | refine LeO.bind ?_ (fun _ => ?_)
    · intro y0 y1 y2 y3 y4 y5 y6 y7 y8 y9 y10 y11 y12 y13 y14 y15
      unfold hornbeamref19_Check.l1
      repeat' first
      | (with_reducible exact ih0 _ _ _ _ _ _ _ _ _ _ _ _ _)
      | (with_reducible exact ih1 _ _ _ _ _ _ _ _ _ _ _ _ _ _ _)
      | (with_reducible exact ih2 _ _ _ _ _ _ _ _ _ _ _ _ _ _ _ _)
      | (with_reducible exact hornbeamref09_Target.mono _ _ _ _ _ _ _ _ _)
      | (with_reducible exact hornbeamref13_Right.mono _ _ _ _ _ _ _ _ _ _ _ _ _)
      | (with_reducible exact LeO.refl _)
      | (with_reducible exact LeO.none _)
      | (with_reducible refine LeO.ite ?_ ?_)
      | (with_reducible refine LeO.bind ?_ (fun _ => ?_))
      | exact ih0 _ _ _ _ _ _ _ _ _ _ _ _ _
      | exact ih1 _ _ _ _ _ _ _ _ _ _ _ _ _ _ _
      | exact ih2 _ _ _ _ _ _ _ _ _ _ _ _ _ _ _ _
      | exact hornbeamref09_Target.mono _ _ _ _ _ _ _ _ _
      | exact hornbeamref13_Right.mono _ _ _ _ _ _ _ _ _ _ _ _ _
      | exact LeO.none _
      | refine LeO.ite ?_ ?_
      | refine LeO.bind ?_ (fun _ => ?_)
theorem hornbeamref19_Check.mono : ∀ a0 a1 a2 a3 a4 a5 a6 a7 a8 a9 a10 a11 k, LeO (hornbeamref19_Check.f k a0 a1 a2 a3 a4 a5 a6 a7 a8 a9 a10 a11) (hornbeamref19_Check.f (k + 1) a0 a1 a2 a3 a4 a5 a6 a7 a8 a9 a10 a11) := by
  intro a0 a1 a2 a3 a4 a5 a6 a7 a8 a9 a10 a11 k
  obtain ⟨ih0, ih1, ih2⟩ := hornbeamref19_Check.mono_l k
  unfold hornbeamref19_Check.f
  repeat' first
      | (with_reducible exact ih0 _ _ _ _ _ _ _ _ _ _ _ _ _)
      | (with_reducible exact ih1 _ _ _ _ _ _ _ _ _ _ _ _ _ _ _)
      | (with_reducible exact ih2 _ _ _ _ _ _ _ _ _ _ _ _ _ _ _ _)
      | (with_reducible exact hornbeamref09_Target.mono _ _ _ _ _ _ _ _ _)
      | (with_reducible exact hornbeamref13_Right.mono _ _ _ _ _ _ _ _ _ _ _ _ _)
      | (with_reducible exact LeO.refl _)
      | (with_reducible exact LeO.none _)
      | (with_reducible refine LeO.ite ?_ ?_)
      | (with_reducible refine LeO.bind ?_ (fun _ => ?_))
      | exact ih0 _ _ _ _ _ _ _ _ _ _ _ _ _
      | exact ih1 _ _ _ _ _ _ _ _ _ _ _ _ _ _ _
      | exact ih2 _ _ _ _ _ _ _ _ _ _ _ _ _ _ _ _
      | exact hornbeamref09_Target.mono _ _ _ _ _ _ _ _ _
      | exact hornbeamref13_Right.mono _ _ _ _ _ _ _ _ _ _ _ _ _
      | exact LeO.none _
      | refine LeO.ite ?_ ?_
      | refine LeO.bind ?_ (fun _ => ?_)
def hornbeamref19_Check.T10 : Bool × List (List Nat × List Nat) := (true, [([], []), ([0], [0]), ([], []), ([2], [2]), ([], []), ([3, 4], [3, 4]), ([5], [5]), ([1, 6], [1, 6]), ([7, 7, 0, 1, 2, 3, 4, 5, 6, 7], [7])])
def hornbeamref19_Check.B10 : List Nat := [0, 1, 0, 4, 0, 28, 60, 127, 255]
theorem hornbeamref19_Check.tab10 : rtab .any (opsOf Tryz.f13 10) = hornbeamref19_Check.T10 := by kernel_rfl
theorem hornbeamref19_Check.bits10 : waitsOk hornbeamref19_Check.T10.2 hornbeamref19_Check.B10 = true := by kernel_rfl
def hornbeamref19_Check.T16 : Bool × List (List Nat × List Nat) := (true, [([], []), ([0], [0]), ([], []), ([], []), ([1, 2, 3], [1, 2, 3]), ([], []), ([5], [5]), ([6], [6]), ([4, 7], [4, 7])])
def hornbeamref19_Check.B16 : List Nat := [0, 1, 0, 0, 15, 0, 32, 96, 255]
theorem hornbeamref19_Check.tab16 : rtab .any (opsOf Tryz.f13 16) = hornbeamref19_Check.T16 := by kernel_rfl
theorem hornbeamref19_Check.bits16 : waitsOk hornbeamref19_Check.T16.2 hornbeamref19_Check.B16 = true := by kernel_rfl
set_option maxHeartbeats 8000000 in
set_option maxRecDepth 100000 in
theorem hornbeamref19_Check.calls (k : Nat) (a0_0 : Int) (a0_1 : Int) (a0_2 : Int) (a0_3 : Int) (a0_4 : Int) (a0_5 : Int) (a0_6 : Int) (a0_7 : Int) (a0_8 : Int) (A0_9 : Option Addr) (c0_9 : Nat) (l0_9 : List Int) (A0_10 : Option Addr) (c0_10 : Nat) (l0_10 : List Int) (A0_11 : Option Addr) (c0_11 : Nat) (l0_11 : List Int) (r : Int) (w : World) (hr0_9 : Kd.C (Kd.int .u16) w A0_9 l0_9.length l0_9) (hc0_9 : l0_9.length ≤ c0_9) (hr0_10 : Kd.C (Kd.int .i64) w A0_10 l0_10.length l0_10) (hc0_10 : l0_10.length ≤ c0_10) (hr0_11 : Kd.C (Kd.int .i64) w A0_11 l0_11.length l0_11) (hc0_11 : l0_11.length ≤ c0_11) (h : hornbeamref19_Check.f k a0_0 a0_1 a0_2 a0_3 a0_4 a0_5 a0_6 a0_7 a0_8 l0_9 l0_10 l0_11 = some r) :
    Calls Tryz.prog 13 #[.agg #[.int .i64 a0_0, .int .i64 a0_1, .int .i64 a0_2, .int .i64 a0_3, .int .i64 a0_4, .int .i64 a0_5, .int .i64 a0_6, .int .i64 a0_7, .int .i64 a0_8, .slice A0_9 l0_9.length c0_9, .slice A0_10 l0_10.length c0_10, .slice A0_11 l0_11.length c0_11]] w fun e w' => e = .returned (.int .i64 r) ∧ Below w.heap.size w w' := by
  have hu30 := Tryz.underlying30
  have hu23 := Tryz.underlying23
  have hu26 := Tryz.underlying26
  have HR0_9 := Aside0.mk hr0_9
  have HC0_9 := Aside0.mk hc0_9
  clear hr0_9 hc0_9
  have HR0_10 := Aside0.mk hr0_10
  have HC0_10 := Aside0.mk hc0_10
  clear hr0_10 hc0_10
  have HR0_11 := Aside0.mk hr0_11
  have HC0_11 := Aside0.mk hc0_11
  clear hr0_11 hc0_11
  have HB := Aside0.mk (Below.refl w.heap.size w)
  have H : ((hornbeamref13_Right.f k a0_0 a0_1 a0_2 a0_3 a0_4 a0_5 a0_6 a0_7 a0_8 l0_9 l0_10 l0_11).bind fun t312 => (if t312 = true then (if a0_7 < 1 then (hornbeamref19_Check.j0 k true a0_0 a0_1 a0_2 a0_3 a0_4 a0_5 a0_6 a0_7 a0_8 l0_9 l0_10 l0_11) else (if a0_8 < 1 then (hornbeamref19_Check.j0 k true a0_0 a0_1 a0_2 a0_3 a0_4 a0_5 a0_6 a0_7 a0_8 l0_9 l0_10 l0_11) else (hornbeamref19_Check.j0 k (decide (a0_8 > 1024)) a0_0 a0_1 a0_2 a0_3 a0_4 a0_5 a0_6 a0_7 a0_8 l0_9 l0_10 l0_11))) else (hornbeamref19_Check.j0 k true a0_0 a0_1 a0_2 a0_3 a0_4 a0_5 a0_6 a0_7 a0_8 l0_9 l0_10 l0_11))) = some r := h
  clear h
  have HC2 := Aside0.mk H
  clear H
  go_enter Tryz.func13, Tryz.ntmps13
  go_upto_region 1 with (first | ((with_reducible refine gate_dst (N := 1) rfl ?_); refine box_event ?hg (N := 1) ?hd (cs := #[.int .i64 a0_0, .int .i64 a0_1, .int .i64 a0_2, .int .i64 a0_3, .int .i64 a0_4, .int .i64 a0_5, .int .i64 a0_6, .int .i64 a0_7, .int .i64 a0_8, .slice A0_9 l0_9.length c0_9, .slice A0_10 l0_10.length c0_10, .slice A0_11 l0_11.length c0_11]) (t := 30) ?hr ?_; (case hd => rfl); (case hg => rfl); (case hr => first | (go_simp; done) | (go_simp; rfl)); intro gb311 hg w3 hbox hb; have n0_ := Aside0.mk (below_step (by repeat (first | (with_reducible first | exact HB.out | apply below_alloc | apply pw_below_drewN | apply below_drew1) | exact HB.out)) hb); have n1_ := Aside0.mk (hbox); have n2_ := Aside0.mk ((by rw [hg]; exact (below_size (by repeat (first | (with_reducible first | exact HB.out | apply below_alloc | apply pw_below_drewN | apply below_drew1) | exact HB.out))) : w.heap.size ≤ gb311)); have n3_ := Aside0.mk ((by rw [hg]; exact (below_size (by repeat (first | (with_reducible first | exact HB.out | apply below_alloc | apply pw_below_drewN | apply below_drew1) | exact HB.out))) : w.heap.size ≤ gb311)); clear HB; have HB := n0_; have BK311 := n1_; have GW311 := n2_; have GE311 := n3_; clear n0_ n1_ n2_ n3_; clear hb hbox hg))
  (try simp only [Act.put, List.setIfInBounds_toArray, List.set_cons_zero, List.set_cons_succ])
  go_cut [28] (fun v28 wc => ∃ (kq : Nat) (x28_1 : Bool), v28 = .bool x28_1 ∧ Aside0 (hornbeamref19_Check.j0 kq x28_1 a0_0 a0_1 a0_2 a0_3 a0_4 a0_5 a0_6 a0_7 a0_8 l0_9 l0_10 l0_11 = some r) ∧ Aside0 (kq ≤ k) ∧ Aside0 (wc.heap[gb311]? = some (.cells #[.int .i64 a0_0, .int .i64 a0_1, .int .i64 a0_2, .int .i64 a0_3, .int .i64 a0_4, .int .i64 a0_5, .int .i64 a0_6, .int .i64 a0_7, .int .i64 a0_8, (.slice A0_9 l0_9.length c0_9), (.slice A0_10 l0_10.length c0_10), (.slice A0_11 l0_11.length c0_11)] 30 (0, 0))) ∧ Aside0 (Below w.heap.size w wc))
  case first =>
    have H := HC2.out
    clear HC2
    replace H := Option.bind_eq_some_iff.mp H
    obtain ⟨t312, A40, H⟩ := H
    replace H : (if t312 = true then (if a0_7 < 1 then (hornbeamref19_Check.j0 k true a0_0 a0_1 a0_2 a0_3 a0_4 a0_5 a0_6 a0_7 a0_8 l0_9 l0_10 l0_11) else (if a0_8 < 1 then (hornbeamref19_Check.j0 k true a0_0 a0_1 a0_2 a0_3 a0_4 a0_5 a0_6 a0_7 a0_8 l0_9 l0_10 l0_11) else (hornbeamref19_Check.j0 k (decide (a0_8 > 1024)) a0_0 a0_1 a0_2 a0_3 a0_4 a0_5 a0_6 a0_7 a0_8 l0_9 l0_10 l0_11))) else (hornbeamref19_Check.j0 k true a0_0 a0_1 a0_2 a0_3 a0_4 a0_5 a0_6 a0_7 a0_8 l0_9 l0_10 l0_11)) = some r := H
    have A4 := Aside0.mk A40
    clear A40
    by_cases c5 : t312 = true
    · subst c5
      have H1 : (if a0_7 < 1 then (hornbeamref19_Check.j0 k true a0_0 a0_1 a0_2 a0_3 a0_4 a0_5 a0_6 a0_7 a0_8 l0_9 l0_10 l0_11) else (if a0_8 < 1 then (hornbeamref19_Check.j0 k true a0_0 a0_1 a0_2 a0_3 a0_4 a0_5 a0_6 a0_7 a0_8 l0_9 l0_10 l0_11) else (hornbeamref19_Check.j0 k (decide (a0_8 > 1024)) a0_0 a0_1 a0_2 a0_3 a0_4 a0_5 a0_6 a0_7 a0_8 l0_9 l0_10 l0_11))) = some r := by rw [if_pos rfl] at H; exact H
      clear H
      have H := H1
      clear H1
      by_cases c6 : a0_7 < 1
      · rw [if_pos c6] at H
        have c6b0 : decide (a0_7 < 1) = true := decide_eq_true c6
        clear c6
        (first | rw [c6b0] | (simp only [i64_w, i32_w]; rw [c6b0]) | skip)
        have H' := Aside0.mk H
        clear H
        have hcz7_0 : w3.cell? ⟨gb311, 0, none⟩ = some (.int .i64 a0_0) := (blk_cell BK311.out 0).trans rfl
        have hcz7_1 : w3.cell? ⟨gb311, 1, none⟩ = some (.int .i64 a0_1) := (blk_cell BK311.out 1).trans rfl
        have hcz7_2 : w3.cell? ⟨gb311, 2, none⟩ = some (.int .i64 a0_2) := (blk_cell BK311.out 2).trans rfl
        have hcz7_3 : w3.cell? ⟨gb311, 3, none⟩ = some (.int .i64 a0_3) := (blk_cell BK311.out 3).trans rfl
        have hcz7_4 : w3.cell? ⟨gb311, 4, none⟩ = some (.int .i64 a0_4) := (blk_cell BK311.out 4).trans rfl
        have hcz7_5 : w3.cell? ⟨gb311, 5, none⟩ = some (.int .i64 a0_5) := (blk_cell BK311.out 5).trans rfl
        have hcz7_6 : w3.cell? ⟨gb311, 6, none⟩ = some (.int .i64 a0_6) := (blk_cell BK311.out 6).trans rfl
        have hcz7_7 : w3.cell? ⟨gb311, 7, none⟩ = some (.int .i64 a0_7) := (blk_cell BK311.out 7).trans rfl
        have hcz7_8 : w3.cell? ⟨gb311, 8, none⟩ = some (.int .i64 a0_8) := (blk_cell BK311.out 8).trans rfl
        have hcz7_9 : w3.cell? ⟨gb311, 9, none⟩ = some (.slice A0_9 l0_9.length c0_9) := (blk_cell BK311.out 9).trans rfl
        have hcz7_10 : w3.cell? ⟨gb311, 10, none⟩ = some (.slice A0_10 l0_10.length c0_10) := (blk_cell BK311.out 10).trans rfl
        have hcz7_11 : w3.cell? ⟨gb311, 11, none⟩ = some (.slice A0_11 l0_11.length c0_11) := (blk_cell BK311.out 11).trans rfl
        have hfz7_0 := blk_frozen BK311.out 0
        have hfz7_1 := blk_frozen BK311.out 1
        have hfz7_2 := blk_frozen BK311.out 2
        have hfz7_3 := blk_frozen BK311.out 3
        have hfz7_4 := blk_frozen BK311.out 4
        have hfz7_5 := blk_frozen BK311.out 5
        have hfz7_6 := blk_frozen BK311.out 6
        have hfz7_7 := blk_frozen BK311.out 7
        have hfz7_8 := blk_frozen BK311.out 8
        have hfz7_9 := blk_frozen BK311.out 9
        have hfz7_10 := blk_frozen BK311.out 10
        have hfz7_11 := blk_frozen BK311.out 11
        go_wp2_with (first | ((with_reducible refine gate_callee (f := 24) rfl ?_); refine goesL_ (some 9) rfl rfl Tryz.func24 (by kernel_rfl) rfl #[.agg #[.int .i64 a0_0, .int .i64 a0_1, .int .i64 a0_2, .int .i64 a0_3, .int .i64 a0_4, .int .i64 a0_5, .int .i64 a0_6, .int .i64 a0_7, .int .i64 a0_8, .slice A0_9 l0_9.length c0_9, .slice A0_10 l0_10.length c0_10, .slice A0_11 l0_11.length c0_11]] rfl (by (try simp only [List.map_toArray, List.map_cons, List.map_nil]); first | done | rfl | (simp only [List.length_drop, List.length_take]; rfl)) ?_; (with_reducible refine (hornbeamref13_Right.calls k a0_0 a0_1 a0_2 a0_3 a0_4 a0_5 a0_6 a0_7 a0_8 _ _ l0_9 _ _ l0_10 _ _ l0_11 true _ ?side1 ?side2 ?side3 ?side4 ?side5 ?side6 A4.out).mono ?_); (case side1 => repeat (first | exact (Kd.C_below HR0_9.out HB.out) | (with_reducible refine Kd.C_alloc ?_ _) | (with_reducible refine Kd.C_drewN ?_ _) | (with_reducible refine Kd.C_drew ?_))); (case side2 => exact HC0_9.out); (case side3 => repeat (first | exact (Kd.C_below HR0_10.out HB.out) | (with_reducible refine Kd.C_alloc ?_ _) | (with_reducible refine Kd.C_drewN ?_ _) | (with_reducible refine Kd.C_drew ?_))); (case side4 => exact HC0_10.out); (case side5 => repeat (first | exact (Kd.C_below HR0_11.out HB.out) | (with_reducible refine Kd.C_alloc ?_ _) | (with_reducible refine Kd.C_drewN ?_ _) | (with_reducible refine Kd.C_drew ?_))); (case side6 => exact HC0_11.out); rintro e w8 ⟨rfl, hb⟩; refine ⟨_, rfl, ?_⟩; have n0_ := Aside0.mk (blk_below (g := gb311) (o := .cells #[.int .i64 a0_0, .int .i64 a0_1, .int .i64 a0_2, .int .i64 a0_3, .int .i64 a0_4, .int .i64 a0_5, .int .i64 a0_6, .int .i64 a0_7, .int .i64 a0_8, .slice A0_9 l0_9.length c0_9, .slice A0_10 l0_10.length c0_10, .slice A0_11 l0_11.length c0_11] 30 (0, 0)) (by (with_reducible repeat (first | refine blk_drewN ?_ _ | refine blk_drew ?_ | refine blk_alloc ?_ _)); exact BK311.out) hb); have n1_ := Aside0.mk (below_step (by repeat (first | (with_reducible first | exact HB.out | apply below_alloc | apply pw_below_drewN | apply below_drew1 | refine below_set ?_ GE311.out) | exact HB.out)) hb); clear BK311; clear HB; have BK311 := n0_; have HB := n1_; clear n0_ n1_; (try clear hb); (try clear hb2); (try clear hk); (try clear hi); have hcz9_0 : w8.cell? ⟨gb311, 0, none⟩ = some (.int .i64 a0_0) := (blk_cell BK311.out 0).trans rfl; have hcz9_1 : w8.cell? ⟨gb311, 1, none⟩ = some (.int .i64 a0_1) := (blk_cell BK311.out 1).trans rfl; have hcz9_2 : w8.cell? ⟨gb311, 2, none⟩ = some (.int .i64 a0_2) := (blk_cell BK311.out 2).trans rfl; have hcz9_3 : w8.cell? ⟨gb311, 3, none⟩ = some (.int .i64 a0_3) := (blk_cell BK311.out 3).trans rfl; have hcz9_4 : w8.cell? ⟨gb311, 4, none⟩ = some (.int .i64 a0_4) := (blk_cell BK311.out 4).trans rfl; have hcz9_5 : w8.cell? ⟨gb311, 5, none⟩ = some (.int .i64 a0_5) := (blk_cell BK311.out 5).trans rfl; have hcz9_6 : w8.cell? ⟨gb311, 6, none⟩ = some (.int .i64 a0_6) := (blk_cell BK311.out 6).trans rfl; have hcz9_7 : w8.cell? ⟨gb311, 7, none⟩ = some (.int .i64 a0_7) := (blk_cell BK311.out 7).trans rfl; have hcz9_8 : w8.cell? ⟨gb311, 8, none⟩ = some (.int .i64 a0_8) := (blk_cell BK311.out 8).trans rfl; have hcz9_9 : w8.cell? ⟨gb311, 9, none⟩ = some (.slice A0_9 l0_9.length c0_9) := (blk_cell BK311.out 9).trans rfl; have hcz9_10 : w8.cell? ⟨gb311, 10, none⟩ = some (.slice A0_10 l0_10.length c0_10) := (blk_cell BK311.out 10).trans rfl; have hcz9_11 : w8.cell? ⟨gb311, 11, none⟩ = some (.slice A0_11 l0_11.length c0_11) := (blk_cell BK311.out 11).trans rfl; have hfz9_0 := blk_frozen BK311.out 0; have hfz9_1 := blk_frozen BK311.out 1; have hfz9_2 := blk_frozen BK311.out 2; have hfz9_3 := blk_frozen BK311.out 3; have hfz9_4 := blk_frozen BK311.out 4; have hfz9_5 := blk_frozen BK311.out 5; have hfz9_6 := blk_frozen BK311.out 6; have hfz9_7 := blk_frozen BK311.out 7; have hfz9_8 := blk_frozen BK311.out 8; have hfz9_9 := blk_frozen BK311.out 9; have hfz9_10 := blk_frozen BK311.out 10; have hfz9_11 := blk_frozen BK311.out 11))
        go_meet
        case rel => exact ⟨_, (true), (by first | rfl | (simp; done) | (simp [*]; done)), H', ⟨by first | omega | exact Nat.le_refl _⟩, ⟨by (with_reducible repeat (first | refine blk_drewN ?_ _ | refine blk_drew ?_ | refine blk_alloc ?_ _)); exact BK311.out⟩, ⟨by repeat (first | (with_reducible first | exact HB.out | apply below_alloc | apply pw_below_drewN | apply below_drew1 | refine below_set ?_ GE311.out) | exact HB.out)⟩⟩
      · rw [if_neg c6] at H
        have c6b0 : decide (a0_7 < 1) = false := decide_eq_false c6
        clear c6
        (first | rw [c6b0] | (simp only [i64_w, i32_w]; rw [c6b0]) | skip)
        by_cases c10 : a0_8 < 1
        · rw [if_pos c10] at H
          have c10b0 : decide (a0_8 < 1) = true := decide_eq_true c10
          clear c10
          have H' := Aside0.mk H
          clear H
          have hcz11_0 : w3.cell? ⟨gb311, 0, none⟩ = some (.int .i64 a0_0) := (blk_cell BK311.out 0).trans rfl
          have hcz11_1 : w3.cell? ⟨gb311, 1, none⟩ = some (.int .i64 a0_1) := (blk_cell BK311.out 1).trans rfl
          have hcz11_2 : w3.cell? ⟨gb311, 2, none⟩ = some (.int .i64 a0_2) := (blk_cell BK311.out 2).trans rfl
          have hcz11_3 : w3.cell? ⟨gb311, 3, none⟩ = some (.int .i64 a0_3) := (blk_cell BK311.out 3).trans rfl
          have hcz11_4 : w3.cell? ⟨gb311, 4, none⟩ = some (.int .i64 a0_4) := (blk_cell BK311.out 4).trans rfl
          have hcz11_5 : w3.cell? ⟨gb311, 5, none⟩ = some (.int .i64 a0_5) := (blk_cell BK311.out 5).trans rfl
          have hcz11_6 : w3.cell? ⟨gb311, 6, none⟩ = some (.int .i64 a0_6) := (blk_cell BK311.out 6).trans rfl
          have hcz11_7 : w3.cell? ⟨gb311, 7, none⟩ = some (.int .i64 a0_7) := (blk_cell BK311.out 7).trans rfl
          have hcz11_8 : w3.cell? ⟨gb311, 8, none⟩ = some (.int .i64 a0_8) := (blk_cell BK311.out 8).trans rfl
          have hcz11_9 : w3.cell? ⟨gb311, 9, none⟩ = some (.slice A0_9 l0_9.length c0_9) := (blk_cell BK311.out 9).trans rfl
          have hcz11_10 : w3.cell? ⟨gb311, 10, none⟩ = some (.slice A0_10 l0_10.length c0_10) := (blk_cell BK311.out 10).trans rfl
          have hcz11_11 : w3.cell? ⟨gb311, 11, none⟩ = some (.slice A0_11 l0_11.length c0_11) := (blk_cell BK311.out 11).trans rfl
          have hfz11_0 := blk_frozen BK311.out 0
          have hfz11_1 := blk_frozen BK311.out 1
          have hfz11_2 := blk_frozen BK311.out 2
          have hfz11_3 := blk_frozen BK311.out 3
          have hfz11_4 := blk_frozen BK311.out 4
          have hfz11_5 := blk_frozen BK311.out 5
          have hfz11_6 := blk_frozen BK311.out 6
          have hfz11_7 := blk_frozen BK311.out 7
          have hfz11_8 := blk_frozen BK311.out 8
          have hfz11_9 := blk_frozen BK311.out 9
          have hfz11_10 := blk_frozen BK311.out 10
          have hfz11_11 := blk_frozen BK311.out 11
          go_wp2_with (first | ((with_reducible refine gate_callee (f := 24) rfl ?_); refine goesL_ (some 9) rfl rfl Tryz.func24 (by kernel_rfl) rfl #[.agg #[.int .i64 a0_0, .int .i64 a0_1, .int .i64 a0_2, .int .i64 a0_3, .int .i64 a0_4, .int .i64 a0_5, .int .i64 a0_6, .int .i64 a0_7, .int .i64 a0_8, .slice A0_9 l0_9.length c0_9, .slice A0_10 l0_10.length c0_10, .slice A0_11 l0_11.length c0_11]] rfl (by (try simp only [List.map_toArray, List.map_cons, List.map_nil]); first | done | rfl | (simp only [List.length_drop, List.length_take]; rfl)) ?_; (with_reducible refine (hornbeamref13_Right.calls k a0_0 a0_1 a0_2 a0_3 a0_4 a0_5 a0_6 a0_7 a0_8 _ _ l0_9 _ _ l0_10 _ _ l0_11 true _ ?side1 ?side2 ?side3 ?side4 ?side5 ?side6 A4.out).mono ?_); (case side1 => repeat (first | exact (Kd.C_below HR0_9.out HB.out) | (with_reducible refine Kd.C_alloc ?_ _) | (with_reducible refine Kd.C_drewN ?_ _) | (with_reducible refine Kd.C_drew ?_))); (case side2 => exact HC0_9.out); (case side3 => repeat (first | exact (Kd.C_below HR0_10.out HB.out) | (with_reducible refine Kd.C_alloc ?_ _) | (with_reducible refine Kd.C_drewN ?_ _) | (with_reducible refine Kd.C_drew ?_))); (case side4 => exact HC0_10.out); (case side5 => repeat (first | exact (Kd.C_below HR0_11.out HB.out) | (with_reducible refine Kd.C_alloc ?_ _) | (with_reducible refine Kd.C_drewN ?_ _) | (with_reducible refine Kd.C_drew ?_))); (case side6 => exact HC0_11.out); rintro e w12 ⟨rfl, hb⟩; refine ⟨_, rfl, ?_⟩; have n0_ := Aside0.mk (blk_below (g := gb311) (o := .cells #[.int .i64 a0_0, .int .i64 a0_1, .int .i64 a0_2, .int .i64 a0_3, .int .i64 a0_4, .int .i64 a0_5, .int .i64 a0_6, .int .i64 a0_7, .int .i64 a0_8, .slice A0_9 l0_9.length c0_9, .slice A0_10 l0_10.length c0_10, .slice A0_11 l0_11.length c0_11] 30 (0, 0)) (by (with_reducible repeat (first | refine blk_drewN ?_ _ | refine blk_drew ?_ | refine blk_alloc ?_ _)); exact BK311.out) hb); have n1_ := Aside0.mk (below_step (by repeat (first | (with_reducible first | exact HB.out | apply below_alloc | apply pw_below_drewN | apply below_drew1 | refine below_set ?_ GE311.out) | exact HB.out)) hb); clear BK311; clear HB; have BK311 := n0_; have HB := n1_; clear n0_ n1_; (try clear hb); (try clear hb2); (try clear hk); (try clear hi); have hcz13_0 : w12.cell? ⟨gb311, 0, none⟩ = some (.int .i64 a0_0) := (blk_cell BK311.out 0).trans rfl; have hcz13_1 : w12.cell? ⟨gb311, 1, none⟩ = some (.int .i64 a0_1) := (blk_cell BK311.out 1).trans rfl; have hcz13_2 : w12.cell? ⟨gb311, 2, none⟩ = some (.int .i64 a0_2) := (blk_cell BK311.out 2).trans rfl; have hcz13_3 : w12.cell? ⟨gb311, 3, none⟩ = some (.int .i64 a0_3) := (blk_cell BK311.out 3).trans rfl; have hcz13_4 : w12.cell? ⟨gb311, 4, none⟩ = some (.int .i64 a0_4) := (blk_cell BK311.out 4).trans rfl; have hcz13_5 : w12.cell? ⟨gb311, 5, none⟩ = some (.int .i64 a0_5) := (blk_cell BK311.out 5).trans rfl; have hcz13_6 : w12.cell? ⟨gb311, 6, none⟩ = some (.int .i64 a0_6) := (blk_cell BK311.out 6).trans rfl; have hcz13_7 : w12.cell? ⟨gb311, 7, none⟩ = some (.int .i64 a0_7) := (blk_cell BK311.out 7).trans rfl; have hcz13_8 : w12.cell? ⟨gb311, 8, none⟩ = some (.int .i64 a0_8) := (blk_cell BK311.out 8).trans rfl; have hcz13_9 : w12.cell? ⟨gb311, 9, none⟩ = some (.slice A0_9 l0_9.length c0_9) := (blk_cell BK311.out 9).trans rfl; have hcz13_10 : w12.cell? ⟨gb311, 10, none⟩ = some (.slice A0_10 l0_10.length c0_10) := (blk_cell BK311.out 10).trans rfl; have hcz13_11 : w12.cell? ⟨gb311, 11, none⟩ = some (.slice A0_11 l0_11.length c0_11) := (blk_cell BK311.out 11).trans rfl; have hfz13_0 := blk_frozen BK311.out 0; have hfz13_1 := blk_frozen BK311.out 1; have hfz13_2 := blk_frozen BK311.out 2; have hfz13_3 := blk_frozen BK311.out 3; have hfz13_4 := blk_frozen BK311.out 4; have hfz13_5 := blk_frozen BK311.out 5; have hfz13_6 := blk_frozen BK311.out 6; have hfz13_7 := blk_frozen BK311.out 7; have hfz13_8 := blk_frozen BK311.out 8; have hfz13_9 := blk_frozen BK311.out 9; have hfz13_10 := blk_frozen BK311.out 10; have hfz13_11 := blk_frozen BK311.out 11))
          go_meet
          case rel => exact ⟨_, (true), (by first | rfl | (simp; done) | (simp [*]; done)), H', ⟨by first | omega | exact Nat.le_refl _⟩, ⟨by (with_reducible repeat (first | refine blk_drewN ?_ _ | refine blk_drew ?_ | refine blk_alloc ?_ _)); exact BK311.out⟩, ⟨by repeat (first | (with_reducible first | exact HB.out | apply below_alloc | apply pw_below_drewN | apply below_drew1 | refine below_set ?_ GE311.out) | exact HB.out)⟩⟩
        · rw [if_neg c10] at H
          have c10b0 : decide (a0_8 < 1) = false := decide_eq_false c10
          clear c10
          have H' := Aside0.mk H
          clear H
          have hcz14_0 : w3.cell? ⟨gb311, 0, none⟩ = some (.int .i64 a0_0) := (blk_cell BK311.out 0).trans rfl
          have hcz14_1 : w3.cell? ⟨gb311, 1, none⟩ = some (.int .i64 a0_1) := (blk_cell BK311.out 1).trans rfl
          have hcz14_2 : w3.cell? ⟨gb311, 2, none⟩ = some (.int .i64 a0_2) := (blk_cell BK311.out 2).trans rfl
          have hcz14_3 : w3.cell? ⟨gb311, 3, none⟩ = some (.int .i64 a0_3) := (blk_cell BK311.out 3).trans rfl
          have hcz14_4 : w3.cell? ⟨gb311, 4, none⟩ = some (.int .i64 a0_4) := (blk_cell BK311.out 4).trans rfl
          have hcz14_5 : w3.cell? ⟨gb311, 5, none⟩ = some (.int .i64 a0_5) := (blk_cell BK311.out 5).trans rfl
          have hcz14_6 : w3.cell? ⟨gb311, 6, none⟩ = some (.int .i64 a0_6) := (blk_cell BK311.out 6).trans rfl
          have hcz14_7 : w3.cell? ⟨gb311, 7, none⟩ = some (.int .i64 a0_7) := (blk_cell BK311.out 7).trans rfl
          have hcz14_8 : w3.cell? ⟨gb311, 8, none⟩ = some (.int .i64 a0_8) := (blk_cell BK311.out 8).trans rfl
          have hcz14_9 : w3.cell? ⟨gb311, 9, none⟩ = some (.slice A0_9 l0_9.length c0_9) := (blk_cell BK311.out 9).trans rfl
          have hcz14_10 : w3.cell? ⟨gb311, 10, none⟩ = some (.slice A0_10 l0_10.length c0_10) := (blk_cell BK311.out 10).trans rfl
          have hcz14_11 : w3.cell? ⟨gb311, 11, none⟩ = some (.slice A0_11 l0_11.length c0_11) := (blk_cell BK311.out 11).trans rfl
          have hfz14_0 := blk_frozen BK311.out 0
          have hfz14_1 := blk_frozen BK311.out 1
          have hfz14_2 := blk_frozen BK311.out 2
          have hfz14_3 := blk_frozen BK311.out 3
          have hfz14_4 := blk_frozen BK311.out 4
          have hfz14_5 := blk_frozen BK311.out 5
          have hfz14_6 := blk_frozen BK311.out 6
          have hfz14_7 := blk_frozen BK311.out 7
          have hfz14_8 := blk_frozen BK311.out 8
          have hfz14_9 := blk_frozen BK311.out 9
          have hfz14_10 := blk_frozen BK311.out 10
          have hfz14_11 := blk_frozen BK311.out 11
          go_wp2_with (first | ((with_reducible refine gate_callee (f := 24) rfl ?_); refine goesL_ (some 9) rfl rfl Tryz.func24 (by kernel_rfl) rfl #[.agg #[.int .i64 a0_0, .int .i64 a0_1, .int .i64 a0_2, .int .i64 a0_3, .int .i64 a0_4, .int .i64 a0_5, .int .i64 a0_6, .int .i64 a0_7, .int .i64 a0_8, .slice A0_9 l0_9.length c0_9, .slice A0_10 l0_10.length c0_10, .slice A0_11 l0_11.length c0_11]] rfl (by (try simp only [List.map_toArray, List.map_cons, List.map_nil]); first | done | rfl | (simp only [List.length_drop, List.length_take]; rfl)) ?_; (with_reducible refine (hornbeamref13_Right.calls k a0_0 a0_1 a0_2 a0_3 a0_4 a0_5 a0_6 a0_7 a0_8 _ _ l0_9 _ _ l0_10 _ _ l0_11 true _ ?side1 ?side2 ?side3 ?side4 ?side5 ?side6 A4.out).mono ?_); (case side1 => repeat (first | exact (Kd.C_below HR0_9.out HB.out) | (with_reducible refine Kd.C_alloc ?_ _) | (with_reducible refine Kd.C_drewN ?_ _) | (with_reducible refine Kd.C_drew ?_))); (case side2 => exact HC0_9.out); (case side3 => repeat (first | exact (Kd.C_below HR0_10.out HB.out) | (with_reducible refine Kd.C_alloc ?_ _) | (with_reducible refine Kd.C_drewN ?_ _) | (with_reducible refine Kd.C_drew ?_))); (case side4 => exact HC0_10.out); (case side5 => repeat (first | exact (Kd.C_below HR0_11.out HB.out) | (with_reducible refine Kd.C_alloc ?_ _) | (with_reducible refine Kd.C_drewN ?_ _) | (with_reducible refine Kd.C_drew ?_))); (case side6 => exact HC0_11.out); rintro e w15 ⟨rfl, hb⟩; refine ⟨_, rfl, ?_⟩; have n0_ := Aside0.mk (blk_below (g := gb311) (o := .cells #[.int .i64 a0_0, .int .i64 a0_1, .int .i64 a0_2, .int .i64 a0_3, .int .i64 a0_4, .int .i64 a0_5, .int .i64 a0_6, .int .i64 a0_7, .int .i64 a0_8, .slice A0_9 l0_9.length c0_9, .slice A0_10 l0_10.length c0_10, .slice A0_11 l0_11.length c0_11] 30 (0, 0)) (by (with_reducible repeat (first | refine blk_drewN ?_ _ | refine blk_drew ?_ | refine blk_alloc ?_ _)); exact BK311.out) hb); have n1_ := Aside0.mk (below_step (by repeat (first | (with_reducible first | exact HB.out | apply below_alloc | apply pw_below_drewN | apply below_drew1 | refine below_set ?_ GE311.out) | exact HB.out)) hb); clear BK311; clear HB; have BK311 := n0_; have HB := n1_; clear n0_ n1_; (try clear hb); (try clear hb2); (try clear hk); (try clear hi); have hcz16_0 : w15.cell? ⟨gb311, 0, none⟩ = some (.int .i64 a0_0) := (blk_cell BK311.out 0).trans rfl; have hcz16_1 : w15.cell? ⟨gb311, 1, none⟩ = some (.int .i64 a0_1) := (blk_cell BK311.out 1).trans rfl; have hcz16_2 : w15.cell? ⟨gb311, 2, none⟩ = some (.int .i64 a0_2) := (blk_cell BK311.out 2).trans rfl; have hcz16_3 : w15.cell? ⟨gb311, 3, none⟩ = some (.int .i64 a0_3) := (blk_cell BK311.out 3).trans rfl; have hcz16_4 : w15.cell? ⟨gb311, 4, none⟩ = some (.int .i64 a0_4) := (blk_cell BK311.out 4).trans rfl; have hcz16_5 : w15.cell? ⟨gb311, 5, none⟩ = some (.int .i64 a0_5) := (blk_cell BK311.out 5).trans rfl; have hcz16_6 : w15.cell? ⟨gb311, 6, none⟩ = some (.int .i64 a0_6) := (blk_cell BK311.out 6).trans rfl; have hcz16_7 : w15.cell? ⟨gb311, 7, none⟩ = some (.int .i64 a0_7) := (blk_cell BK311.out 7).trans rfl; have hcz16_8 : w15.cell? ⟨gb311, 8, none⟩ = some (.int .i64 a0_8) := (blk_cell BK311.out 8).trans rfl; have hcz16_9 : w15.cell? ⟨gb311, 9, none⟩ = some (.slice A0_9 l0_9.length c0_9) := (blk_cell BK311.out 9).trans rfl; have hcz16_10 : w15.cell? ⟨gb311, 10, none⟩ = some (.slice A0_10 l0_10.length c0_10) := (blk_cell BK311.out 10).trans rfl; have hcz16_11 : w15.cell? ⟨gb311, 11, none⟩ = some (.slice A0_11 l0_11.length c0_11) := (blk_cell BK311.out 11).trans rfl; have hfz16_0 := blk_frozen BK311.out 0; have hfz16_1 := blk_frozen BK311.out 1; have hfz16_2 := blk_frozen BK311.out 2; have hfz16_3 := blk_frozen BK311.out 3; have hfz16_4 := blk_frozen BK311.out 4; have hfz16_5 := blk_frozen BK311.out 5; have hfz16_6 := blk_frozen BK311.out 6; have hfz16_7 := blk_frozen BK311.out 7; have hfz16_8 := blk_frozen BK311.out 8; have hfz16_9 := blk_frozen BK311.out 9; have hfz16_10 := blk_frozen BK311.out 10; have hfz16_11 := blk_frozen BK311.out 11))
          go_meet
          case rel => exact ⟨_, (decide (a0_8 > 1024)), (by first | rfl | (simp; done) | (simp [*]; done)), H', ⟨by first | omega | exact Nat.le_refl _⟩, ⟨by (with_reducible repeat (first | refine blk_drewN ?_ _ | refine blk_drew ?_ | refine blk_alloc ?_ _)); exact BK311.out⟩, ⟨by repeat (first | (with_reducible first | exact HB.out | apply below_alloc | apply pw_below_drewN | apply below_drew1 | refine below_set ?_ GE311.out) | exact HB.out)⟩⟩
    · replace c5 := Bool.eq_false_iff.mpr c5
      subst c5
      have H1 : (hornbeamref19_Check.j0 k true a0_0 a0_1 a0_2 a0_3 a0_4 a0_5 a0_6 a0_7 a0_8 l0_9 l0_10 l0_11) = some r := by rw [if_neg (show ¬ (false = true) by decide)] at H; exact H
      clear H
      have H := H1
      clear H1
      have H' := Aside0.mk H
      clear H
      have hcz17_0 : w3.cell? ⟨gb311, 0, none⟩ = some (.int .i64 a0_0) := (blk_cell BK311.out 0).trans rfl
      have hcz17_1 : w3.cell? ⟨gb311, 1, none⟩ = some (.int .i64 a0_1) := (blk_cell BK311.out 1).trans rfl
      have hcz17_2 : w3.cell? ⟨gb311, 2, none⟩ = some (.int .i64 a0_2) := (blk_cell BK311.out 2).trans rfl
      have hcz17_3 : w3.cell? ⟨gb311, 3, none⟩ = some (.int .i64 a0_3) := (blk_cell BK311.out 3).trans rfl
      have hcz17_4 : w3.cell? ⟨gb311, 4, none⟩ = some (.int .i64 a0_4) := (blk_cell BK311.out 4).trans rfl
      have hcz17_5 : w3.cell? ⟨gb311, 5, none⟩ = some (.int .i64 a0_5) := (blk_cell BK311.out 5).trans rfl
      have hcz17_6 : w3.cell? ⟨gb311, 6, none⟩ = some (.int .i64 a0_6) := (blk_cell BK311.out 6).trans rfl
      have hcz17_7 : w3.cell? ⟨gb311, 7, none⟩ = some (.int .i64 a0_7) := (blk_cell BK311.out 7).trans rfl
      have hcz17_8 : w3.cell? ⟨gb311, 8, none⟩ = some (.int .i64 a0_8) := (blk_cell BK311.out 8).trans rfl
      have hcz17_9 : w3.cell? ⟨gb311, 9, none⟩ = some (.slice A0_9 l0_9.length c0_9) := (blk_cell BK311.out 9).trans rfl
      have hcz17_10 : w3.cell? ⟨gb311, 10, none⟩ = some (.slice A0_10 l0_10.length c0_10) := (blk_cell BK311.out 10).trans rfl
      have hcz17_11 : w3.cell? ⟨gb311, 11, none⟩ = some (.slice A0_11 l0_11.length c0_11) := (blk_cell BK311.out 11).trans rfl
      have hfz17_0 := blk_frozen BK311.out 0
      have hfz17_1 := blk_frozen BK311.out 1
      have hfz17_2 := blk_frozen BK311.out 2
      have hfz17_3 := blk_frozen BK311.out 3
      have hfz17_4 := blk_frozen BK311.out 4
      have hfz17_5 := blk_frozen BK311.out 5
      have hfz17_6 := blk_frozen BK311.out 6
      have hfz17_7 := blk_frozen BK311.out 7
      have hfz17_8 := blk_frozen BK311.out 8
      have hfz17_9 := blk_frozen BK311.out 9
      have hfz17_10 := blk_frozen BK311.out 10
      have hfz17_11 := blk_frozen BK311.out 11
      go_wp2_with (first | ((with_reducible refine gate_callee (f := 24) rfl ?_); refine goesL_ (some 9) rfl rfl Tryz.func24 (by kernel_rfl) rfl #[.agg #[.int .i64 a0_0, .int .i64 a0_1, .int .i64 a0_2, .int .i64 a0_3, .int .i64 a0_4, .int .i64 a0_5, .int .i64 a0_6, .int .i64 a0_7, .int .i64 a0_8, .slice A0_9 l0_9.length c0_9, .slice A0_10 l0_10.length c0_10, .slice A0_11 l0_11.length c0_11]] rfl (by (try simp only [List.map_toArray, List.map_cons, List.map_nil]); first | done | rfl | (simp only [List.length_drop, List.length_take]; rfl)) ?_; (with_reducible refine (hornbeamref13_Right.calls k a0_0 a0_1 a0_2 a0_3 a0_4 a0_5 a0_6 a0_7 a0_8 _ _ l0_9 _ _ l0_10 _ _ l0_11 false _ ?side1 ?side2 ?side3 ?side4 ?side5 ?side6 A4.out).mono ?_); (case side1 => repeat (first | exact (Kd.C_below HR0_9.out HB.out) | (with_reducible refine Kd.C_alloc ?_ _) | (with_reducible refine Kd.C_drewN ?_ _) | (with_reducible refine Kd.C_drew ?_))); (case side2 => exact HC0_9.out); (case side3 => repeat (first | exact (Kd.C_below HR0_10.out HB.out) | (with_reducible refine Kd.C_alloc ?_ _) | (with_reducible refine Kd.C_drewN ?_ _) | (with_reducible refine Kd.C_drew ?_))); (case side4 => exact HC0_10.out); (case side5 => repeat (first | exact (Kd.C_below HR0_11.out HB.out) | (with_reducible refine Kd.C_alloc ?_ _) | (with_reducible refine Kd.C_drewN ?_ _) | (with_reducible refine Kd.C_drew ?_))); (case side6 => exact HC0_11.out); rintro e w18 ⟨rfl, hb⟩; refine ⟨_, rfl, ?_⟩; have n0_ := Aside0.mk (blk_below (g := gb311) (o := .cells #[.int .i64 a0_0, .int .i64 a0_1, .int .i64 a0_2, .int .i64 a0_3, .int .i64 a0_4, .int .i64 a0_5, .int .i64 a0_6, .int .i64 a0_7, .int .i64 a0_8, .slice A0_9 l0_9.length c0_9, .slice A0_10 l0_10.length c0_10, .slice A0_11 l0_11.length c0_11] 30 (0, 0)) (by (with_reducible repeat (first | refine blk_drewN ?_ _ | refine blk_drew ?_ | refine blk_alloc ?_ _)); exact BK311.out) hb); have n1_ := Aside0.mk (below_step (by repeat (first | (with_reducible first | exact HB.out | apply below_alloc | apply pw_below_drewN | apply below_drew1 | refine below_set ?_ GE311.out) | exact HB.out)) hb); clear BK311; clear HB; have BK311 := n0_; have HB := n1_; clear n0_ n1_; (try clear hb); (try clear hb2); (try clear hk); (try clear hi)))
      go_meet
      case rel => exact ⟨_, (true), (by first | rfl | (simp; done) | (simp [*]; done)), H', ⟨by first | omega | exact Nat.le_refl _⟩, ⟨by (with_reducible repeat (first | refine blk_drewN ?_ _ | refine blk_drew ?_ | refine blk_alloc ?_ _)); exact BK311.out⟩, ⟨by repeat (first | (with_reducible first | exact HB.out | apply below_alloc | apply pw_below_drewN | apply below_drew1 | refine below_set ?_ GE311.out) | exact HB.out)⟩⟩
  case rest =>
    clear HC2
    try clear c1
    try clear c2
    try clear p2
    try clear c5
    try clear c6
    try clear c6b0
    try clear c10
    try clear c10b0
    try clear c13
    try clear hcz11_0
    try clear hcz11_1
    try clear hcz11_10
    try clear hcz11_11
    try clear hcz11_2
    try clear hcz11_3
    try clear hcz11_4
    try clear hcz11_5
    try clear hcz11_6
    try clear hcz11_7
    try clear hcz11_8
    try clear hcz11_9
    try clear hcz13_0
    try clear hcz13_1
    try clear hcz13_10
    try clear hcz13_11
    try clear hcz13_2
    try clear hcz13_3
    try clear hcz13_4
    try clear hcz13_5
    try clear hcz13_6
    try clear hcz13_7
    try clear hcz13_8
    try clear hcz13_9
    try clear hcz14_0
    try clear hcz14_1
    try clear hcz14_10
    try clear hcz14_11
    try clear hcz14_2
    try clear hcz14_3
    try clear hcz14_4
    try clear hcz14_5
    try clear hcz14_6
    try clear hcz14_7
    try clear hcz14_8
    try clear hcz14_9
    try clear hcz16_0
    try clear hcz16_1
    try clear hcz16_10
    try clear hcz16_11
    try clear hcz16_2
    try clear hcz16_3
    try clear hcz16_4
    try clear hcz16_5
    try clear hcz16_6
    try clear hcz16_7
    try clear hcz16_8
    try clear hcz16_9
    try clear hcz17_0
    try clear hcz17_1
    try clear hcz17_10
    try clear hcz17_11
    try clear hcz17_2
    try clear hcz17_3
    try clear hcz17_4
    try clear hcz17_5
    try clear hcz17_6
    try clear hcz17_7
    try clear hcz17_8
    try clear hcz17_9
    try clear hcz7_0
    try clear hcz7_1
    try clear hcz7_10
    try clear hcz7_11
    try clear hcz7_2
    try clear hcz7_3
    try clear hcz7_4
    try clear hcz7_5
    try clear hcz7_6
    try clear hcz7_7
    try clear hcz7_8
    try clear hcz7_9
    try clear hcz9_0
    try clear hcz9_1
    try clear hcz9_10
    try clear hcz9_11
    try clear hcz9_2
    try clear hcz9_3
    try clear hcz9_4
    try clear hcz9_5
    try clear hcz9_6
    try clear hcz9_7
    try clear hcz9_8
    try clear hcz9_9
    try clear hfz11_0
    try clear hfz11_1
    try clear hfz11_10
    try clear hfz11_11
    try clear hfz11_2
    try clear hfz11_3
    try clear hfz11_4
    try clear hfz11_5
    try clear hfz11_6
    try clear hfz11_7
    try clear hfz11_8
    try clear hfz11_9
    try clear hfz13_0
    try clear hfz13_1
    try clear hfz13_10
    try clear hfz13_11
    try clear hfz13_2
    try clear hfz13_3
    try clear hfz13_4
    try clear hfz13_5
    try clear hfz13_6
    try clear hfz13_7
    try clear hfz13_8
    try clear hfz13_9
    try clear hfz14_0
    try clear hfz14_1
    try clear hfz14_10
    try clear hfz14_11
    try clear hfz14_2
    try clear hfz14_3
    try clear hfz14_4
    try clear hfz14_5
    try clear hfz14_6
    try clear hfz14_7
    try clear hfz14_8
    try clear hfz14_9
    try clear hfz16_0
    try clear hfz16_1
    try clear hfz16_10
    try clear hfz16_11
    try clear hfz16_2
    try clear hfz16_3
    try clear hfz16_4
    try clear hfz16_5
    try clear hfz16_6
    try clear hfz16_7
    try clear hfz16_8
    try clear hfz16_9
    try clear hfz17_0
    try clear hfz17_1
    try clear hfz17_10
    try clear hfz17_11
    try clear hfz17_2
    try clear hfz17_3
    try clear hfz17_4
    try clear hfz17_5
    try clear hfz17_6
    try clear hfz17_7
    try clear hfz17_8
    try clear hfz17_9
    try clear hfz7_0
    try clear hfz7_1
    try clear hfz7_10
    try clear hfz7_11
    try clear hfz7_2
    try clear hfz7_3
    try clear hfz7_4
    try clear hfz7_5
    try clear hfz7_6
    try clear hfz7_7
    try clear hfz7_8
    try clear hfz7_9
    try clear hfz9_0
    try clear hfz9_1
    try clear hfz9_10
    try clear hfz9_11
    try clear hfz9_2
    try clear hfz9_3
    try clear hfz9_4
    try clear hfz9_5
    try clear hfz9_6
    try clear hfz9_7
    try clear hfz9_8
    try clear hfz9_9
    obtain ⟨kq, x28_1, rfl, HA, HJ1, BK311, HB⟩ := hcut
    cases kq with
    | zero => exact absurd HA.out (by simp [hornbeamref19_Check.j0])
    | succ kj1 =>
      have H := HA.out
      clear HA
      simp only [hornbeamref19_Check.j0] at H
      by_cases c19 : x28_1 = true
      · subst c19
        have H1 : (some 8) = some r := by rw [if_pos rfl] at H; exact H
        clear H
        have H := H1
        clear H1
        obtain rfl := Option.some.inj H
        go_wp2
        go_ret
        exact ⟨by first | rfl | (simp [errW_none, errW_some] <;> rfl) | (simp [*, errW_none, errW_some] <;> rfl), by repeat (first | (with_reducible first | exact HB.out | apply below_alloc | apply pw_below_drewN | apply below_drew1 | refine below_set ?_ GE311.out) | exact HB.out)⟩
      · replace c19 := Bool.eq_false_iff.mpr c19
        subst c19
        have H1 : (hornbeamref19_Check.l0 kj1 1048576 false 0 a0_0 a0_1 a0_2 a0_3 a0_4 a0_5 a0_6 a0_7 a0_8 l0_9 l0_10 l0_11) = some r := by rw [if_neg (show ¬ (false = true) by decide)] at H; exact H
        clear H
        have H := H1
        clear H1
        have H' := Aside0.mk H
        clear H
        go_wp2
        go_loopg [3, 4, 5] kj1 (fun kq v3 v4 v5 w' => ∃ (x3_2 : Int) (x4_2 : Bool) (x5_2 : Int), v3 = .int .i64 x3_2 ∧ v4 = .bool x4_2 ∧ v5 = .int .i64 x5_2 ∧ Aside0 (hornbeamref19_Check.l0 kq x3_2 x4_2 x5_2 a0_0 a0_1 a0_2 a0_3 a0_4 a0_5 a0_6 a0_7 a0_8 l0_9 l0_10 l0_11 = some r) ∧ Aside0 (kq ≤ kj1) ∧ Aside0 (w'.heap[gb311]? = some (.cells #[.int .i64 a0_0, .int .i64 a0_1, .int .i64 a0_2, .int .i64 a0_3, .int .i64 a0_4, .int .i64 a0_5, .int .i64 a0_6, .int .i64 a0_7, .int .i64 a0_8, (.slice A0_9 l0_9.length c0_9), (.slice A0_10 l0_10.length c0_10), (.slice A0_11 l0_11.length c0_11)] 30 (0, 0))) ∧ Aside0 (Below w.heap.size w w'))
        case atStart => exact ⟨(1048576), (false), (0), (by first | rfl | (simp; done) | (simp [*]; done)), (by first | rfl | (simp; done) | (simp [*]; done)), (by first | rfl | (simp; done) | (simp [*]; done)), H', ⟨Nat.le_refl _⟩, ⟨by (with_reducible repeat (first | refine blk_drewN ?_ _ | refine blk_drew ?_ | refine blk_alloc ?_ _)); exact BK311.out⟩, ⟨by repeat (first | (with_reducible first | exact HB.out | apply below_alloc | apply pw_below_drewN | apply below_drew1 | refine below_set ?_ GE311.out) | exact HB.out)⟩⟩
        case round =>
          clear H'
          try clear c1
          try clear c2
          try clear p2
          try clear c5
          try clear c6
          try clear c6b0
          try clear c10
          try clear c10b0
          try clear c13
          try clear c19
          try clear hcz11_0
          try clear hcz11_1
          try clear hcz11_10
          try clear hcz11_11
          try clear hcz11_2
          try clear hcz11_3
          try clear hcz11_4
          try clear hcz11_5
          try clear hcz11_6
          try clear hcz11_7
          try clear hcz11_8
          try clear hcz11_9
          try clear hcz13_0
          try clear hcz13_1
          try clear hcz13_10
          try clear hcz13_11
          try clear hcz13_2
          try clear hcz13_3
          try clear hcz13_4
          try clear hcz13_5
          try clear hcz13_6
          try clear hcz13_7
          try clear hcz13_8
          try clear hcz13_9
          try clear hcz14_0
          try clear hcz14_1
          try clear hcz14_10
          try clear hcz14_11
          try clear hcz14_2
          try clear hcz14_3
          try clear hcz14_4
          try clear hcz14_5
          try clear hcz14_6
          try clear hcz14_7
          try clear hcz14_8
          try clear hcz14_9
          try clear hcz16_0
          try clear hcz16_1
          try clear hcz16_10
          try clear hcz16_11
          try clear hcz16_2
          try clear hcz16_3
          try clear hcz16_4
          try clear hcz16_5
          try clear hcz16_6
          try clear hcz16_7
          try clear hcz16_8
          try clear hcz16_9
          try clear hcz17_0
          try clear hcz17_1
          try clear hcz17_10
          try clear hcz17_11
          try clear hcz17_2
          try clear hcz17_3
          try clear hcz17_4
          try clear hcz17_5
          try clear hcz17_6
          try clear hcz17_7
          try clear hcz17_8
          try clear hcz17_9
          try clear hcz7_0
          try clear hcz7_1
          try clear hcz7_10
          try clear hcz7_11
          try clear hcz7_2
          try clear hcz7_3
          try clear hcz7_4
          try clear hcz7_5
          try clear hcz7_6
          try clear hcz7_7
          try clear hcz7_8
          try clear hcz7_9
          try clear hcz9_0
          try clear hcz9_1
          try clear hcz9_10
          try clear hcz9_11
          try clear hcz9_2
          try clear hcz9_3
          try clear hcz9_4
          try clear hcz9_5
          try clear hcz9_6
          try clear hcz9_7
          try clear hcz9_8
          try clear hcz9_9
          try clear hfz11_0
          try clear hfz11_1
          try clear hfz11_10
          try clear hfz11_11
          try clear hfz11_2
          try clear hfz11_3
          try clear hfz11_4
          try clear hfz11_5
          try clear hfz11_6
          try clear hfz11_7
          try clear hfz11_8
          try clear hfz11_9
          try clear hfz13_0
          try clear hfz13_1
          try clear hfz13_10
          try clear hfz13_11
          try clear hfz13_2
          try clear hfz13_3
          try clear hfz13_4
          try clear hfz13_5
          try clear hfz13_6
          try clear hfz13_7
          try clear hfz13_8
          try clear hfz13_9
          try clear hfz14_0
          try clear hfz14_1
          try clear hfz14_10
          try clear hfz14_11
          try clear hfz14_2
          try clear hfz14_3
          try clear hfz14_4
          try clear hfz14_5
          try clear hfz14_6
          try clear hfz14_7
          try clear hfz14_8
          try clear hfz14_9
          try clear hfz16_0
          try clear hfz16_1
          try clear hfz16_10
          try clear hfz16_11
          try clear hfz16_2
          try clear hfz16_3
          try clear hfz16_4
          try clear hfz16_5
          try clear hfz16_6
          try clear hfz16_7
          try clear hfz16_8
          try clear hfz16_9
          try clear hfz17_0
          try clear hfz17_1
          try clear hfz17_10
          try clear hfz17_11
          try clear hfz17_2
          try clear hfz17_3
          try clear hfz17_4
          try clear hfz17_5
          try clear hfz17_6
          try clear hfz17_7
          try clear hfz17_8
          try clear hfz17_9
          try clear hfz7_0
          try clear hfz7_1
          try clear hfz7_10
          try clear hfz7_11
          try clear hfz7_2
          try clear hfz7_3
          try clear hfz7_4
          try clear hfz7_5
          try clear hfz7_6
          try clear hfz7_7
          try clear hfz7_8
          try clear hfz7_9
          try clear hfz9_0
          try clear hfz9_1
          try clear hfz9_10
          try clear hfz9_11
          try clear hfz9_2
          try clear hfz9_3
          try clear hfz9_4
          try clear hfz9_5
          try clear hfz9_6
          try clear hfz9_7
          try clear hfz9_8
          try clear hfz9_9
          try clear p2
          obtain ⟨x3_2, x4_2, x5_2, rfl, rfl, rfl, HA, HK2, BK311, HB⟩ := hrel
          cases gk with
          | zero => exact absurd HA.out (by simp [hornbeamref19_Check.l0])
          | succ k2 =>
            have H := HA.out
            clear HA
            simp only [hornbeamref19_Check.l0] at H
            by_cases c20 : x5_2 < a0_7
            · rw [if_pos c20] at H
              have c20b0 : decide (x5_2 < a0_7) = true := decide_eq_true c20
              clear c20
              by_cases c21 : 0 ≤ x5_2
              · rw [if_pos c21] at H
                have c21b0 : decide (0 ≤ x5_2) = true := decide_eq_true c21
                clear c21
                by_cases c22 : x5_2 < (l0_11.length : Int)
                · rw [if_pos c22] at H
                  have c22b0 : decide (x5_2 < (l0_11.length : Int)) = true := decide_eq_true c22
                  clear c22
                  by_cases c23 : (rd l0_11 x5_2) < 0
                  · rw [if_pos c23] at H
                    have c23b0 : decide ((rd l0_11 x5_2) < 0) = true := decide_eq_true c23
                    clear c23
                    obtain rfl := Option.some.inj H
                    have hcz24_0 : wr.cell? ⟨gb311, 0, none⟩ = some (.int .i64 a0_0) := (blk_cell BK311.out 0).trans rfl
                    have hcz24_1 : wr.cell? ⟨gb311, 1, none⟩ = some (.int .i64 a0_1) := (blk_cell BK311.out 1).trans rfl
                    have hcz24_2 : wr.cell? ⟨gb311, 2, none⟩ = some (.int .i64 a0_2) := (blk_cell BK311.out 2).trans rfl
                    have hcz24_3 : wr.cell? ⟨gb311, 3, none⟩ = some (.int .i64 a0_3) := (blk_cell BK311.out 3).trans rfl
                    have hcz24_4 : wr.cell? ⟨gb311, 4, none⟩ = some (.int .i64 a0_4) := (blk_cell BK311.out 4).trans rfl
                    have hcz24_5 : wr.cell? ⟨gb311, 5, none⟩ = some (.int .i64 a0_5) := (blk_cell BK311.out 5).trans rfl
                    have hcz24_6 : wr.cell? ⟨gb311, 6, none⟩ = some (.int .i64 a0_6) := (blk_cell BK311.out 6).trans rfl
                    have hcz24_7 : wr.cell? ⟨gb311, 7, none⟩ = some (.int .i64 a0_7) := (blk_cell BK311.out 7).trans rfl
                    have hcz24_8 : wr.cell? ⟨gb311, 8, none⟩ = some (.int .i64 a0_8) := (blk_cell BK311.out 8).trans rfl
                    have hcz24_9 : wr.cell? ⟨gb311, 9, none⟩ = some (.slice A0_9 l0_9.length c0_9) := (blk_cell BK311.out 9).trans rfl
                    have hcz24_10 : wr.cell? ⟨gb311, 10, none⟩ = some (.slice A0_10 l0_10.length c0_10) := (blk_cell BK311.out 10).trans rfl
                    have hcz24_11 : wr.cell? ⟨gb311, 11, none⟩ = some (.slice A0_11 l0_11.length c0_11) := (blk_cell BK311.out 11).trans rfl
                    have hfz24_0 := blk_frozen BK311.out 0
                    have hfz24_1 := blk_frozen BK311.out 1
                    have hfz24_2 := blk_frozen BK311.out 2
                    have hfz24_3 := blk_frozen BK311.out 3
                    have hfz24_4 := blk_frozen BK311.out 4
                    have hfz24_5 := blk_frozen BK311.out 5
                    have hfz24_6 := blk_frozen BK311.out 6
                    have hfz24_7 := blk_frozen BK311.out 7
                    have hfz24_8 := blk_frozen BK311.out 8
                    have hfz24_9 := blk_frozen BK311.out 9
                    have hfz24_10 := blk_frozen BK311.out 10
                    have hfz24_11 := blk_frozen BK311.out 11
                    have p313 : 0 ≤ (x5_2 : Int) := of_decide_eq_true (by first | (with_reducible assumption) | assumption)
                    have q313 : x5_2 < (l0_11.length : Int) := of_decide_eq_true (by first | (with_reducible assumption) | assumption)
                    obtain ⟨ad313, e313, hx313_0⟩ := Kd.at_int HR0_11.out x5_2 p313 q313
                    cases e313
                    replace hx313_0 := (HB.out.cell (World.block_lt_of_cell? w _ hx313_0)).trans hx313_0
                    replace p313 := eq_true p313
                    replace q313 := eq_true q313
                    go_wp2
                    go_ret
                    exact ⟨by first | rfl | (simp [errW_none, errW_some] <;> rfl) | (simp [*, errW_none, errW_some] <;> rfl), by repeat (first | (with_reducible first | exact HB.out | apply below_alloc | apply pw_below_drewN | apply below_drew1 | refine below_set ?_ GE311.out) | exact HB.out)⟩
                  · rw [if_neg c23] at H
                    have c23b0 : decide ((rd l0_11 x5_2) < 0) = false := decide_eq_false c23
                    clear c23
                    by_cases c25 : x5_2 < (l0_10.length : Int)
                    · rw [if_pos c25] at H
                      have c25b0 : decide (x5_2 < (l0_10.length : Int)) = true := decide_eq_true c25
                      clear c25
                      replace H := Option.bind_eq_some_iff.mp H
                      obtain ⟨t315, A260, H⟩ := H
                      replace H : (if t315 = 0 then (hornbeamref19_Check.l1 k2 x3_2 x4_2 x5_2 0 a0_0 a0_1 a0_2 a0_3 a0_4 a0_5 a0_6 a0_7 a0_8 l0_9 l0_10 l0_11) else (some t315)) = some r := H
                      have A26 := Aside0.mk A260
                      clear A260
                      by_cases c27 : t315 = 0
                      · rw [if_pos c27] at H
                        have c27b0 : (t315 == 0) = true := beq_iff_eq.mpr c27
                        have c27b1 : (t315 != 0) = false := bne_eq_false_iff_eq.mpr c27
                        clear c27
                        have H' := Aside0.mk H
                        clear H
                        have hcz28_0 : wr.cell? ⟨gb311, 0, none⟩ = some (.int .i64 a0_0) := (blk_cell BK311.out 0).trans rfl
                        have hcz28_1 : wr.cell? ⟨gb311, 1, none⟩ = some (.int .i64 a0_1) := (blk_cell BK311.out 1).trans rfl
                        have hcz28_2 : wr.cell? ⟨gb311, 2, none⟩ = some (.int .i64 a0_2) := (blk_cell BK311.out 2).trans rfl
                        have hcz28_3 : wr.cell? ⟨gb311, 3, none⟩ = some (.int .i64 a0_3) := (blk_cell BK311.out 3).trans rfl
                        have hcz28_4 : wr.cell? ⟨gb311, 4, none⟩ = some (.int .i64 a0_4) := (blk_cell BK311.out 4).trans rfl
                        have hcz28_5 : wr.cell? ⟨gb311, 5, none⟩ = some (.int .i64 a0_5) := (blk_cell BK311.out 5).trans rfl
                        have hcz28_6 : wr.cell? ⟨gb311, 6, none⟩ = some (.int .i64 a0_6) := (blk_cell BK311.out 6).trans rfl
                        have hcz28_7 : wr.cell? ⟨gb311, 7, none⟩ = some (.int .i64 a0_7) := (blk_cell BK311.out 7).trans rfl
                        have hcz28_8 : wr.cell? ⟨gb311, 8, none⟩ = some (.int .i64 a0_8) := (blk_cell BK311.out 8).trans rfl
                        have hcz28_9 : wr.cell? ⟨gb311, 9, none⟩ = some (.slice A0_9 l0_9.length c0_9) := (blk_cell BK311.out 9).trans rfl
                        have hcz28_10 : wr.cell? ⟨gb311, 10, none⟩ = some (.slice A0_10 l0_10.length c0_10) := (blk_cell BK311.out 10).trans rfl
                        have hcz28_11 : wr.cell? ⟨gb311, 11, none⟩ = some (.slice A0_11 l0_11.length c0_11) := (blk_cell BK311.out 11).trans rfl
                        have hfz28_0 := blk_frozen BK311.out 0
                        have hfz28_1 := blk_frozen BK311.out 1
                        have hfz28_2 := blk_frozen BK311.out 2
                        have hfz28_3 := blk_frozen BK311.out 3
                        have hfz28_4 := blk_frozen BK311.out 4
                        have hfz28_5 := blk_frozen BK311.out 5
                        have hfz28_6 := blk_frozen BK311.out 6
                        have hfz28_7 := blk_frozen BK311.out 7
                        have hfz28_8 := blk_frozen BK311.out 8
                        have hfz28_9 := blk_frozen BK311.out 9
                        have hfz28_10 := blk_frozen BK311.out 10
                        have hfz28_11 := blk_frozen BK311.out 11
                        have p313 : 0 ≤ (x5_2 : Int) := of_decide_eq_true (by first | (with_reducible assumption) | assumption)
                        have q313 : x5_2 < (l0_11.length : Int) := of_decide_eq_true (by first | (with_reducible assumption) | assumption)
                        obtain ⟨ad313, e313, hx313_0⟩ := Kd.at_int HR0_11.out x5_2 p313 q313
                        cases e313
                        replace hx313_0 := (HB.out.cell (World.block_lt_of_cell? w _ hx313_0)).trans hx313_0
                        replace p313 := eq_true p313
                        replace q313 := eq_true q313
                        try go_wp2
                        have n0_ := Aside0.mk (blk_drew BK311.out)
                        have n1_ := Aside0.mk (below_drew1 HB.out)
                        clear BK311
                        clear HB
                        have BK311 := n0_
                        have HB := n1_
                        clear n0_ n1_
                        have p314 : 0 ≤ (x5_2 : Int) := of_decide_eq_true (by first | (with_reducible assumption) | assumption)
                        have q314 : x5_2 < (l0_10.length : Int) := of_decide_eq_true (by first | (with_reducible assumption) | assumption)
                        obtain ⟨ad314, e314, hx314_0⟩ := Kd.at_int HR0_10.out x5_2 p314 q314
                        have hw314_0 := hx314_0
                        cases e314
                        replace hx314_0 := (HB.out.cell (World.block_lt_of_cell? w _ hx314_0)).trans hx314_0
                        replace p314 := eq_true p314
                        replace q314 := eq_true q314
                        refine start_ (n := 9) (S := fun w' => w'.cell? ⟨gb311, 0, none⟩ = some (.int .i64 a0_0) ∧ w'.cell? ⟨gb311, 1, none⟩ = some (.int .i64 a0_1) ∧ w'.cell? ⟨gb311, 2, none⟩ = some (.int .i64 a0_2) ∧ w'.cell? ⟨gb311, 3, none⟩ = some (.int .i64 a0_3) ∧ w'.cell? ⟨gb311, 4, none⟩ = some (.int .i64 a0_4) ∧ w'.cell? ⟨gb311, 5, none⟩ = some (.int .i64 a0_5) ∧ w'.cell? ⟨gb311, 6, none⟩ = some (.int .i64 a0_6) ∧ w'.cell? ⟨gb311, 7, none⟩ = some (.int .i64 a0_7) ∧ w'.cell? ⟨gb311, 8, none⟩ = some (.int .i64 a0_8) ∧ w'.cell? ⟨gb311, 9, none⟩ = some (.slice A0_9 l0_9.length c0_9) ∧ w'.cell? ⟨gb311, 10, none⟩ = some (.slice (some ad314) l0_10.length c0_10) ∧ w'.cell? ⟨gb311, 11, none⟩ = some (.slice (some ad313) l0_11.length c0_11) ∧ w'.cell? (ad314.add (x5_2).toNat) = some (.int .i64 (rd l0_10 x5_2))) (ds := []) #[false, false, false, false, false, false, false, false, false] (by kernel_rfl) rfl rfl ⟨(blk_cell BK311.out 0).trans rfl, (blk_cell BK311.out 1).trans rfl, (blk_cell BK311.out 2).trans rfl, (blk_cell BK311.out 3).trans rfl, (blk_cell BK311.out 4).trans rfl, (blk_cell BK311.out 5).trans rfl, (blk_cell BK311.out 6).trans rfl, (blk_cell BK311.out 7).trans rfl, (blk_cell BK311.out 8).trans rfl, (blk_cell BK311.out 9).trans rfl, (blk_cell BK311.out 10).trans rfl, (blk_cell BK311.out 11).trans rfl, ((HB.out.cell (World.block_lt_of_cell? w _ hw314_0)).trans hw314_0)⟩ (fun hHeld => ?_); refine with_tabW hornbeamref19_Check.tab10 hornbeamref19_Check.bits10 (fun HT_ HW_ => ?_)
                        generalize wr.drew = w29 at BK311 HB hx314_0 hHeld ⊢
                        refine pure_ (i := 0) (N := some 42) (v := ?_) (a' := ?_) #[true, false, false, false, false, false, false, false, false] rfl rfl (any_of HT_.out (by kernel_rfl)) (fun _ _ _ h => h) (Or.inl ⟨by rfl, ?_⟩) ?_ ?_
                        rotate_left
                        · intro w'
                          go_simp
                          with_reducible rfl
                        rotate_left
                        · simp only [Act.put, List.setIfInBounds_toArray, List.set_cons_zero, List.set_cons_succ, i64_w, i32_w]
                          rfl
                        refine pure_ (i := 2) (N := some 44) (v := ?_) (a' := ?_) #[true, false, true, false, false, false, false, false, false] rfl rfl (any_of HT_.out (by kernel_rfl)) (fun _ _ _ h => h) (Or.inl ⟨by rfl, ?_⟩) ?_ ?_
                        rotate_left
                        · intro w'
                          go_simp
                          with_reducible rfl
                        rotate_left
                        · simp only [Act.put, List.setIfInBounds_toArray, List.set_cons_zero, List.set_cons_succ, i64_w, i32_w]
                          rfl
                        refine pure_ (i := 4) (N := some 46) (v := ?_) (a' := ?_) #[true, false, true, false, true, false, false, false, false] rfl rfl (any_of HT_.out (by kernel_rfl)) (fun _ _ _ h => h) (Or.inl ⟨by rfl, ?_⟩) ?_ ?_
                        rotate_left
                        · intro w'
                          go_simp
                          with_reducible rfl
                        rotate_left
                        · simp only [Act.put, List.setIfInBounds_toArray, List.set_cons_zero, List.set_cons_succ, i64_w, i32_w]
                          rfl
                        refine take_ (i := 1) (N := some 43) (v := ?_) (a' := ?_) #[true, true, true, false, true, false, false, false, false] rfl rfl (take_ofW HT_.out HW_.out (by kernel_rfl)) (fun _ _ _ h => h) (Or.inl ⟨by rfl, ?_⟩) hHeld ?_ ?_
                        rotate_left
                        · rintro w' ⟨s0, s1, s2, s3, s4, s5, s6, s7, s8, s9, s10, s11, s12⟩
                          go_simp
                          with_reducible rfl
                        rotate_left
                        · simp only [Act.put, List.setIfInBounds_toArray, List.set_cons_zero, List.set_cons_succ, i64_w, i32_w]
                          rfl
                        refine take_ (i := 3) (N := some 45) (v := ?_) (a' := ?_) #[true, true, true, true, true, false, false, false, false] rfl rfl (take_ofW HT_.out HW_.out (by kernel_rfl)) (fun _ _ _ h => h) (Or.inl ⟨by rfl, ?_⟩) hHeld ?_ ?_
                        rotate_left
                        · rintro w' ⟨s0, s1, s2, s3, s4, s5, s6, s7, s8, s9, s10, s11, s12⟩
                          go_simp
                          with_reducible rfl
                        rotate_left
                        · simp only [Act.put, List.setIfInBounds_toArray, List.set_cons_zero, List.set_cons_succ, i64_w, i32_w]
                          rfl
                        refine pure_ (i := 5) (N := some 47) (v := ?_) (a' := ?_) #[true, true, true, true, true, true, false, false, false] rfl rfl (any_of HT_.out (by kernel_rfl)) (fun _ _ _ h => h) (Or.inl ⟨by rfl, ?_⟩) ?_ ?_
                        rotate_left
                        · intro w'
                          go_simp
                          with_reducible rfl
                        rotate_left
                        · simp only [Act.put, List.setIfInBounds_toArray, List.set_cons_zero, List.set_cons_succ, i64_w, i32_w]
                          rfl
                        refine take_ (i := 6) (N := some 48) (v := ?_) (a' := ?_) #[true, true, true, true, true, true, true, false, false] rfl rfl (take_ofW HT_.out HW_.out (by kernel_rfl)) (fun _ _ _ h => h) (Or.inl ⟨by rfl, ?_⟩) hHeld ?_ ?_
                        rotate_left
                        · rintro w' ⟨s0, s1, s2, s3, s4, s5, s6, s7, s8, s9, s10, s11, s12⟩
                          go_simp
                          with_reducible rfl
                        rotate_left
                        · simp only [Act.put, List.setIfInBounds_toArray, List.set_cons_zero, List.set_cons_succ, i64_w, i32_w]
                          rfl
                        refine one_ (i := 7) (N := some 49) #[true, true, true, true, true, true, true, true, false] rfl rfl (one_of HT_.out (by kernel_rfl)) (by decide) (fun K hK => ?_)
                        refine goes_ Tryz.func25 (by kernel_rfl) rfl #[.agg #[.int .i64 a0_0, .int .i64 a0_1, .int .i64 a0_2, .int .i64 a0_3, .int .i64 a0_4, .int .i64 a0_5, .int .i64 a0_6], .int .i64 (rd l0_10 x5_2)] (by rfl) rfl rfl (by (try simp only [List.map_toArray, List.map_cons, List.map_nil]); first | done | rfl | (simp only [List.length_drop, List.length_take]; rfl)) ?_
                        with_reducible refine (hornbeamref09_Target.calls k2 a0_0 a0_1 a0_2 a0_3 a0_4 a0_5 a0_6 (rd l0_10 x5_2) t315 _ A26.out).mono ?_
                        rintro e w30 ⟨rfl, hb⟩
                        refine ⟨_, rfl, ?_⟩
                        have n0_ := Aside0.mk (blk_below (g := gb311) (o := .cells #[.int .i64 a0_0, .int .i64 a0_1, .int .i64 a0_2, .int .i64 a0_3, .int .i64 a0_4, .int .i64 a0_5, .int .i64 a0_6, .int .i64 a0_7, .int .i64 a0_8, .slice A0_9 l0_9.length c0_9, .slice (some ad314) l0_10.length c0_10, .slice (some ad313) l0_11.length c0_11] 30 (0, 0)) (by (with_reducible repeat (first | refine blk_drewN ?_ _ | refine blk_drew ?_ | refine blk_alloc ?_ _)); exact BK311.out) hb)
                        have n1_ := Aside0.mk (below_step (by repeat (first | (with_reducible first | exact HB.out | apply below_alloc | apply pw_below_drewN | apply below_drew1 | refine below_set ?_ GE311.out) | exact HB.out)) hb)
                        clear BK311
                        clear HB
                        have BK311 := n0_
                        have HB := n1_
                        clear n0_ n1_
                        (try clear hb)
                        (try clear hb2)
                        (try clear hk)
                        (try clear hi)
                        refine hK.out _ _ ⟨(blk_cell BK311.out 0).trans rfl, (blk_cell BK311.out 1).trans rfl, (blk_cell BK311.out 2).trans rfl, (blk_cell BK311.out 3).trans rfl, (blk_cell BK311.out 4).trans rfl, (blk_cell BK311.out 5).trans rfl, (blk_cell BK311.out 6).trans rfl, (blk_cell BK311.out 7).trans rfl, (blk_cell BK311.out 8).trans rfl, (blk_cell BK311.out 9).trans rfl, (blk_cell BK311.out 10).trans rfl, (blk_cell BK311.out 11).trans rfl, ((HB.out.cell (World.block_lt_of_cell? w _ hw314_0)).trans hw314_0)⟩ (fun hHeld => ?_)
                        clear hK K
                        refine norm_ (a' := ?_) ?_ ?_
                        rotate_left
                        · show Act.put _ (some 49) _ = _
                          simp only [Act.put, List.setIfInBounds_toArray, List.set_cons_zero, List.set_cons_succ, i64_w, i32_w]
                          rfl
                        refine pure_ (i := 8) (N := some 6) (v := ?_) (a' := ?_) #[true, true, true, true, true, true, true, true, true] rfl rfl (any_of HT_.out (by kernel_rfl)) (fun _ _ _ h => h) (Or.inl ⟨by rfl, ?_⟩) ?_ ?_
                        rotate_left
                        · intro w'
                          go_simp
                          with_reducible rfl
                        rotate_left
                        · simp only [Act.put, List.setIfInBounds_toArray, List.set_cons_zero, List.set_cons_succ, i64_w, i32_w]
                          rfl
                        refine done_ (done_of HT_.out (by kernel_rfl)) ?_
                        try go_wp2
                        go_loopg [7] k2 (fun kq v7 w' => ∃ (x7_3 : Int), v7 = .int .i64 x7_3 ∧ Aside0 (hornbeamref19_Check.l1 kq x3_2 x4_2 x5_2 x7_3 a0_0 a0_1 a0_2 a0_3 a0_4 a0_5 a0_6 a0_7 a0_8 l0_9 l0_10 l0_11 = some r) ∧ Aside0 (kq ≤ k2) ∧ Aside0 (w'.heap[gb311]? = some (.cells #[.int .i64 a0_0, .int .i64 a0_1, .int .i64 a0_2, .int .i64 a0_3, .int .i64 a0_4, .int .i64 a0_5, .int .i64 a0_6, .int .i64 a0_7, .int .i64 a0_8, (.slice A0_9 l0_9.length c0_9), (.slice (some ad314) l0_10.length c0_10), (.slice (some ad313) l0_11.length c0_11)] 30 (0, 0))) ∧ Aside0 (Below w.heap.size w w'))
                        case atStart => exact ⟨(0), (by first | rfl | (simp; done) | (simp [*]; done)), H', ⟨Nat.le_refl _⟩, ⟨by (with_reducible repeat (first | refine blk_drewN ?_ _ | refine blk_drew ?_ | refine blk_alloc ?_ _)); exact BK311.out⟩, ⟨by repeat (first | (with_reducible first | exact HB.out | apply below_alloc | apply pw_below_drewN | apply below_drew1 | refine below_set ?_ GE311.out) | exact HB.out)⟩⟩
                        case round =>
                          clear H'
                          try clear c1
                          try clear c2
                          try clear p2
                          try clear p3
                          try clear q3
                          try clear hx3
                          try clear c5
                          try clear c6
                          try clear c6b0
                          try clear c10
                          try clear c10b0
                          try clear c13
                          try clear c19
                          try clear c20
                          try clear c20b0
                          try clear c21
                          try clear c21b0
                          try clear c22
                          try clear c22b0
                          try clear c23
                          try clear c23b0
                          try clear c25
                          try clear c25b0
                          try clear c27
                          try clear c27b0
                          try clear c27b1
                          try clear hcz11_0
                          try clear hcz11_1
                          try clear hcz11_10
                          try clear hcz11_11
                          try clear hcz11_2
                          try clear hcz11_3
                          try clear hcz11_4
                          try clear hcz11_5
                          try clear hcz11_6
                          try clear hcz11_7
                          try clear hcz11_8
                          try clear hcz11_9
                          try clear hcz13_0
                          try clear hcz13_1
                          try clear hcz13_10
                          try clear hcz13_11
                          try clear hcz13_2
                          try clear hcz13_3
                          try clear hcz13_4
                          try clear hcz13_5
                          try clear hcz13_6
                          try clear hcz13_7
                          try clear hcz13_8
                          try clear hcz13_9
                          try clear hcz14_0
                          try clear hcz14_1
                          try clear hcz14_10
                          try clear hcz14_11
                          try clear hcz14_2
                          try clear hcz14_3
                          try clear hcz14_4
                          try clear hcz14_5
                          try clear hcz14_6
                          try clear hcz14_7
                          try clear hcz14_8
                          try clear hcz14_9
                          try clear hcz16_0
                          try clear hcz16_1
                          try clear hcz16_10
                          try clear hcz16_11
                          try clear hcz16_2
                          try clear hcz16_3
                          try clear hcz16_4
                          try clear hcz16_5
                          try clear hcz16_6
                          try clear hcz16_7
                          try clear hcz16_8
                          try clear hcz16_9
                          try clear hcz17_0
                          try clear hcz17_1
                          try clear hcz17_10
                          try clear hcz17_11
                          try clear hcz17_2
                          try clear hcz17_3
                          try clear hcz17_4
                          try clear hcz17_5
                          try clear hcz17_6
                          try clear hcz17_7
                          try clear hcz17_8
                          try clear hcz17_9
                          try clear hcz24_0
                          try clear hcz24_1
                          try clear hcz24_10
                          try clear hcz24_11
                          try clear hcz24_2
                          try clear hcz24_3
                          try clear hcz24_4
                          try clear hcz24_5
                          try clear hcz24_6
                          try clear hcz24_7
                          try clear hcz24_8
                          try clear hcz24_9
                          try clear hcz28_0
                          try clear hcz28_1
                          try clear hcz28_10
                          try clear hcz28_11
                          try clear hcz28_2
                          try clear hcz28_3
                          try clear hcz28_4
                          try clear hcz28_5
                          try clear hcz28_6
                          try clear hcz28_7
                          try clear hcz28_8
                          try clear hcz28_9
                          try clear hcz7_0
                          try clear hcz7_1
                          try clear hcz7_10
                          try clear hcz7_11
                          try clear hcz7_2
                          try clear hcz7_3
                          try clear hcz7_4
                          try clear hcz7_5
                          try clear hcz7_6
                          try clear hcz7_7
                          try clear hcz7_8
                          try clear hcz7_9
                          try clear hcz9_0
                          try clear hcz9_1
                          try clear hcz9_10
                          try clear hcz9_11
                          try clear hcz9_2
                          try clear hcz9_3
                          try clear hcz9_4
                          try clear hcz9_5
                          try clear hcz9_6
                          try clear hcz9_7
                          try clear hcz9_8
                          try clear hcz9_9
                          try clear hfz11_0
                          try clear hfz11_1
                          try clear hfz11_10
                          try clear hfz11_11
                          try clear hfz11_2
                          try clear hfz11_3
                          try clear hfz11_4
                          try clear hfz11_5
                          try clear hfz11_6
                          try clear hfz11_7
                          try clear hfz11_8
                          try clear hfz11_9
                          try clear hfz13_0
                          try clear hfz13_1
                          try clear hfz13_10
                          try clear hfz13_11
                          try clear hfz13_2
                          try clear hfz13_3
                          try clear hfz13_4
                          try clear hfz13_5
                          try clear hfz13_6
                          try clear hfz13_7
                          try clear hfz13_8
                          try clear hfz13_9
                          try clear hfz14_0
                          try clear hfz14_1
                          try clear hfz14_10
                          try clear hfz14_11
                          try clear hfz14_2
                          try clear hfz14_3
                          try clear hfz14_4
                          try clear hfz14_5
                          try clear hfz14_6
                          try clear hfz14_7
                          try clear hfz14_8
                          try clear hfz14_9
                          try clear hfz16_0
                          try clear hfz16_1
                          try clear hfz16_10
                          try clear hfz16_11
                          try clear hfz16_2
                          try clear hfz16_3
                          try clear hfz16_4
                          try clear hfz16_5
                          try clear hfz16_6
                          try clear hfz16_7
                          try clear hfz16_8
                          try clear hfz16_9
                          try clear hfz17_0
                          try clear hfz17_1
                          try clear hfz17_10
                          try clear hfz17_11
                          try clear hfz17_2
                          try clear hfz17_3
                          try clear hfz17_4
                          try clear hfz17_5
                          try clear hfz17_6
                          try clear hfz17_7
                          try clear hfz17_8
                          try clear hfz17_9
                          try clear hfz24_0
                          try clear hfz24_1
                          try clear hfz24_10
                          try clear hfz24_11
                          try clear hfz24_2
                          try clear hfz24_3
                          try clear hfz24_4
                          try clear hfz24_5
                          try clear hfz24_6
                          try clear hfz24_7
                          try clear hfz24_8
                          try clear hfz24_9
                          try clear hfz28_0
                          try clear hfz28_1
                          try clear hfz28_10
                          try clear hfz28_11
                          try clear hfz28_2
                          try clear hfz28_3
                          try clear hfz28_4
                          try clear hfz28_5
                          try clear hfz28_6
                          try clear hfz28_7
                          try clear hfz28_8
                          try clear hfz28_9
                          try clear hfz7_0
                          try clear hfz7_1
                          try clear hfz7_10
                          try clear hfz7_11
                          try clear hfz7_2
                          try clear hfz7_3
                          try clear hfz7_4
                          try clear hfz7_5
                          try clear hfz7_6
                          try clear hfz7_7
                          try clear hfz7_8
                          try clear hfz7_9
                          try clear hfz9_0
                          try clear hfz9_1
                          try clear hfz9_10
                          try clear hfz9_11
                          try clear hfz9_2
                          try clear hfz9_3
                          try clear hfz9_4
                          try clear hfz9_5
                          try clear hfz9_6
                          try clear hfz9_7
                          try clear hfz9_8
                          try clear hfz9_9
                          try clear hx313_0
                          try clear hx314_0
                          try clear p2
                          try clear p313
                          try clear p314
                          try clear q313
                          try clear q314
                          obtain ⟨x7_3, rfl, HA, HK3, BK311, HB⟩ := hrel
                          cases gk with
                          | zero => exact absurd HA.out (by simp [hornbeamref19_Check.l1])
                          | succ k3 =>
                            have H := HA.out
                            clear HA
                            simp only [hornbeamref19_Check.l1] at H
                            by_cases c31 : x7_3 < a0_8
                            · rw [if_pos c31] at H
                              have c31b0 : decide (x7_3 < a0_8) = true := decide_eq_true c31
                              clear c31
                              replace H := Option.bind_eq_some_iff.mp H
                              obtain ⟨t316, A320, H⟩ := H
                              replace H : (if t316 > a0_2 then (some 5) else (hornbeamref19_Check.l1 k3 x3_2 x4_2 x5_2 (wrap64 (x7_3 + 1)) a0_0 a0_1 a0_2 a0_3 a0_4 a0_5 a0_6 a0_7 a0_8 l0_9 l0_10 l0_11)) = some r := H
                              have A32 := Aside0.mk A320
                              clear A320
                              by_cases c33 : t316 > a0_2
                              · rw [if_pos c33] at H
                                have c33b0 : decide (a0_2 < t316) = true := decide_eq_true c33
                                clear c33
                                obtain rfl := Option.some.inj H
                                have hcz34_0 : wr.cell? ⟨gb311, 0, none⟩ = some (.int .i64 a0_0) := (blk_cell BK311.out 0).trans rfl
                                have hcz34_1 : wr.cell? ⟨gb311, 1, none⟩ = some (.int .i64 a0_1) := (blk_cell BK311.out 1).trans rfl
                                have hcz34_2 : wr.cell? ⟨gb311, 2, none⟩ = some (.int .i64 a0_2) := (blk_cell BK311.out 2).trans rfl
                                have hcz34_3 : wr.cell? ⟨gb311, 3, none⟩ = some (.int .i64 a0_3) := (blk_cell BK311.out 3).trans rfl
                                have hcz34_4 : wr.cell? ⟨gb311, 4, none⟩ = some (.int .i64 a0_4) := (blk_cell BK311.out 4).trans rfl
                                have hcz34_5 : wr.cell? ⟨gb311, 5, none⟩ = some (.int .i64 a0_5) := (blk_cell BK311.out 5).trans rfl
                                have hcz34_6 : wr.cell? ⟨gb311, 6, none⟩ = some (.int .i64 a0_6) := (blk_cell BK311.out 6).trans rfl
                                have hcz34_7 : wr.cell? ⟨gb311, 7, none⟩ = some (.int .i64 a0_7) := (blk_cell BK311.out 7).trans rfl
                                have hcz34_8 : wr.cell? ⟨gb311, 8, none⟩ = some (.int .i64 a0_8) := (blk_cell BK311.out 8).trans rfl
                                have hcz34_9 : wr.cell? ⟨gb311, 9, none⟩ = some (.slice A0_9 l0_9.length c0_9) := (blk_cell BK311.out 9).trans rfl
                                have hcz34_10 : wr.cell? ⟨gb311, 10, none⟩ = some (.slice (some ad314) l0_10.length c0_10) := (blk_cell BK311.out 10).trans rfl
                                have hcz34_11 : wr.cell? ⟨gb311, 11, none⟩ = some (.slice (some ad313) l0_11.length c0_11) := (blk_cell BK311.out 11).trans rfl
                                have hfz34_0 := blk_frozen BK311.out 0
                                have hfz34_1 := blk_frozen BK311.out 1
                                have hfz34_2 := blk_frozen BK311.out 2
                                have hfz34_3 := blk_frozen BK311.out 3
                                have hfz34_4 := blk_frozen BK311.out 4
                                have hfz34_5 := blk_frozen BK311.out 5
                                have hfz34_6 := blk_frozen BK311.out 6
                                have hfz34_7 := blk_frozen BK311.out 7
                                have hfz34_8 := blk_frozen BK311.out 8
                                have hfz34_9 := blk_frozen BK311.out 9
                                have hfz34_10 := blk_frozen BK311.out 10
                                have hfz34_11 := blk_frozen BK311.out 11
                                try go_wp2
                                have n0_ := Aside0.mk (blk_drew BK311.out)
                                have n1_ := Aside0.mk (below_drew1 HB.out)
                                clear BK311
                                clear HB
                                have BK311 := n0_
                                have HB := n1_
                                clear n0_ n1_
                                refine start_ (n := 9) (S := fun w' => w'.cell? ⟨gb311, 0, none⟩ = some (.int .i64 a0_0) ∧ w'.cell? ⟨gb311, 1, none⟩ = some (.int .i64 a0_1) ∧ w'.cell? ⟨gb311, 2, none⟩ = some (.int .i64 a0_2) ∧ w'.cell? ⟨gb311, 3, none⟩ = some (.int .i64 a0_3) ∧ w'.cell? ⟨gb311, 4, none⟩ = some (.int .i64 a0_4) ∧ w'.cell? ⟨gb311, 5, none⟩ = some (.int .i64 a0_5) ∧ w'.cell? ⟨gb311, 6, none⟩ = some (.int .i64 a0_6) ∧ w'.cell? ⟨gb311, 7, none⟩ = some (.int .i64 a0_7) ∧ w'.cell? ⟨gb311, 8, none⟩ = some (.int .i64 a0_8) ∧ w'.cell? ⟨gb311, 9, none⟩ = some (.slice A0_9 l0_9.length c0_9) ∧ w'.cell? ⟨gb311, 10, none⟩ = some (.slice (some ad314) l0_10.length c0_10) ∧ w'.cell? ⟨gb311, 11, none⟩ = some (.slice (some ad313) l0_11.length c0_11)) (ds := []) #[false, false, false, false, false, false, false, false, false] (by kernel_rfl) rfl rfl ⟨(blk_cell BK311.out 0).trans rfl, (blk_cell BK311.out 1).trans rfl, (blk_cell BK311.out 2).trans rfl, (blk_cell BK311.out 3).trans rfl, (blk_cell BK311.out 4).trans rfl, (blk_cell BK311.out 5).trans rfl, (blk_cell BK311.out 6).trans rfl, (blk_cell BK311.out 7).trans rfl, (blk_cell BK311.out 8).trans rfl, (blk_cell BK311.out 9).trans rfl, (blk_cell BK311.out 10).trans rfl, (blk_cell BK311.out 11).trans rfl⟩ (fun hHeld => ?_); refine with_tabW hornbeamref19_Check.tab16 hornbeamref19_Check.bits16 (fun HT_ HW_ => ?_)
                                generalize wr.drew = w35 at BK311 HB hHeld ⊢
                                refine pure_ (i := 0) (N := some 60) (v := ?_) (a' := ?_) #[true, false, false, false, false, false, false, false, false] rfl rfl (any_of HT_.out (by kernel_rfl)) (fun _ _ _ h => h) (Or.inl ⟨by rfl, ?_⟩) ?_ ?_
                                rotate_left
                                · intro w'
                                  go_simp
                                  with_reducible rfl
                                rotate_left
                                · simp only [Act.put, List.setIfInBounds_toArray, List.set_cons_zero, List.set_cons_succ, i64_w, i32_w]
                                  rfl
                                refine pure_ (i := 2) (N := some 62) (v := ?_) (a' := ?_) #[true, false, true, false, false, false, false, false, false] rfl rfl (any_of HT_.out (by kernel_rfl)) (fun _ _ _ h => h) (Or.inl ⟨by rfl, ?_⟩) ?_ ?_
                                rotate_left
                                · intro w'
                                  go_simp
                                  with_reducible rfl
                                rotate_left
                                · simp only [Act.put, List.setIfInBounds_toArray, List.set_cons_zero, List.set_cons_succ, i64_w, i32_w]
                                  rfl
                                refine pure_ (i := 3) (N := some 63) (v := ?_) (a' := ?_) #[true, false, true, true, false, false, false, false, false] rfl rfl (any_of HT_.out (by kernel_rfl)) (fun _ _ _ h => h) (Or.inl ⟨by rfl, ?_⟩) ?_ ?_
                                rotate_left
                                · intro w'
                                  go_simp
                                  with_reducible rfl
                                rotate_left
                                · simp only [Act.put, List.setIfInBounds_toArray, List.set_cons_zero, List.set_cons_succ, i64_w, i32_w]
                                  rfl
                                refine pure_ (i := 5) (N := some 65) (v := ?_) (a' := ?_) #[true, false, true, true, false, true, false, false, false] rfl rfl (any_of HT_.out (by kernel_rfl)) (fun _ _ _ h => h) (Or.inl ⟨by rfl, ?_⟩) ?_ ?_
                                rotate_left
                                · intro w'
                                  go_simp
                                  with_reducible rfl
                                rotate_left
                                · simp only [Act.put, List.setIfInBounds_toArray, List.set_cons_zero, List.set_cons_succ, i64_w, i32_w]
                                  rfl
                                refine pure_ (i := 6) (N := some 66) (v := ?_) (a' := ?_) #[true, false, true, true, false, true, true, false, false] rfl rfl (any_of HT_.out (by kernel_rfl)) (fun _ _ _ h => h) (Or.inl ⟨by rfl, ?_⟩) ?_ ?_
                                rotate_left
                                · intro w'
                                  go_simp
                                  with_reducible rfl
                                rotate_left
                                · simp only [Act.put, List.setIfInBounds_toArray, List.set_cons_zero, List.set_cons_succ, i64_w, i32_w]
                                  rfl
                                refine take_ (i := 1) (N := some 61) (v := ?_) (a' := ?_) #[true, true, true, true, false, true, true, false, false] rfl rfl (take_ofW HT_.out HW_.out (by kernel_rfl)) (fun _ _ _ h => h) (Or.inl ⟨by rfl, ?_⟩) hHeld ?_ ?_
                                rotate_left
                                · rintro w' ⟨s0, s1, s2, s3, s4, s5, s6, s7, s8, s9, s10, s11⟩
                                  go_simp
                                  with_reducible rfl
                                rotate_left
                                · simp only [Act.put, List.setIfInBounds_toArray, List.set_cons_zero, List.set_cons_succ, i64_w, i32_w]
                                  rfl
                                refine take_ (i := 7) (N := some 67) (v := ?_) (a' := ?_) #[true, true, true, true, false, true, true, true, false] rfl rfl (take_ofW HT_.out HW_.out (by kernel_rfl)) (fun _ _ _ h => h) (Or.inl ⟨by rfl, ?_⟩) hHeld ?_ ?_
                                rotate_left
                                · rintro w' ⟨s0, s1, s2, s3, s4, s5, s6, s7, s8, s9, s10, s11⟩
                                  go_simp
                                  with_reducible rfl
                                rotate_left
                                · simp only [Act.put, List.setIfInBounds_toArray, List.set_cons_zero, List.set_cons_succ, i64_w, i32_w]
                                  rfl
                                refine one_ (i := 4) (N := some 64) #[true, true, true, true, true, true, true, true, false] rfl rfl (one_of HT_.out (by kernel_rfl)) (by decide) (fun K hK => ?_)
                                refine goes_ Tryz.func26 (by kernel_rfl) rfl #[.agg #[.int .i64 a0_7, .int .i64 a0_8, .slice A0_9 l0_9.length c0_9], .int .i64 x5_2, .int .i64 x7_3] (by rfl) rfl rfl (by (try simp only [List.map_toArray, List.map_cons, List.map_nil]); first | done | rfl | (simp only [List.length_drop, List.length_take]; rfl)) ?_
                                with_reducible refine (hornbeamref11_Cell.calls a0_7 a0_8 _ _ l0_9 x5_2 x7_3 t316 _ ?side1 ?side2 A32.out).mono ?_
                                (case side1 => repeat (first | exact (Kd.C_below HR0_9.out HB.out) | (with_reducible refine Kd.C_alloc ?_ _) | (with_reducible refine Kd.C_drewN ?_ _) | (with_reducible refine Kd.C_drew ?_)))
                                (case side2 => exact HC0_9.out)
                                rintro e w36 ⟨rfl, hb⟩
                                refine ⟨_, rfl, ?_⟩
                                have n0_ := Aside0.mk (blk_below (g := gb311) (o := .cells #[.int .i64 a0_0, .int .i64 a0_1, .int .i64 a0_2, .int .i64 a0_3, .int .i64 a0_4, .int .i64 a0_5, .int .i64 a0_6, .int .i64 a0_7, .int .i64 a0_8, .slice A0_9 l0_9.length c0_9, .slice (some ad314) l0_10.length c0_10, .slice (some ad313) l0_11.length c0_11] 30 (0, 0)) (by (with_reducible repeat (first | refine blk_drewN ?_ _ | refine blk_drew ?_ | refine blk_alloc ?_ _)); exact BK311.out) hb)
                                have n1_ := Aside0.mk (below_step (by repeat (first | (with_reducible first | exact HB.out | apply below_alloc | apply pw_below_drewN | apply below_drew1 | refine below_set ?_ GE311.out) | exact HB.out)) hb)
                                clear BK311
                                clear HB
                                have BK311 := n0_
                                have HB := n1_
                                clear n0_ n1_
                                (try clear hb)
                                (try clear hb2)
                                (try clear hk)
                                (try clear hi)
                                refine hK.out _ _ ⟨(blk_cell BK311.out 0).trans rfl, (blk_cell BK311.out 1).trans rfl, (blk_cell BK311.out 2).trans rfl, (blk_cell BK311.out 3).trans rfl, (blk_cell BK311.out 4).trans rfl, (blk_cell BK311.out 5).trans rfl, (blk_cell BK311.out 6).trans rfl, (blk_cell BK311.out 7).trans rfl, (blk_cell BK311.out 8).trans rfl, (blk_cell BK311.out 9).trans rfl, (blk_cell BK311.out 10).trans rfl, (blk_cell BK311.out 11).trans rfl⟩ (fun hHeld => ?_)
                                clear hK K
                                refine norm_ (a' := ?_) ?_ ?_
                                rotate_left
                                · show Act.put _ (some 64) _ = _
                                  simp only [Act.put, List.setIfInBounds_toArray, List.set_cons_zero, List.set_cons_succ, i64_w, i32_w]
                                  rfl
                                refine pure_ (i := 8) (N := some 68) (v := ?_) (a' := ?_) #[true, true, true, true, true, true, true, true, true] rfl rfl (any_of HT_.out (by kernel_rfl)) (fun _ _ _ h => h) (Or.inl ⟨by rfl, ?_⟩) ?_ ?_
                                rotate_left
                                · intro w'
                                  go_simp
                                  with_reducible rfl
                                rotate_left
                                · simp only [Act.put, List.setIfInBounds_toArray, List.set_cons_zero, List.set_cons_succ, i64_w, i32_w]
                                  rfl
                                refine done_ (done_of HT_.out (by kernel_rfl)) ?_
                                try go_wp2
                                go_ret
                                exact ⟨by first | rfl | (simp [errW_none, errW_some] <;> rfl) | (simp [*, errW_none, errW_some] <;> rfl), by repeat (first | (with_reducible first | exact HB.out | apply below_alloc | apply pw_below_drewN | apply below_drew1 | refine below_set ?_ GE311.out) | exact HB.out)⟩
                              · rw [if_neg c33] at H
                                have c33b0 : decide (a0_2 < t316) = false := decide_eq_false c33
                                clear c33
                                have H' := Aside0.mk H
                                clear H
                                have hcz37_0 : wr.cell? ⟨gb311, 0, none⟩ = some (.int .i64 a0_0) := (blk_cell BK311.out 0).trans rfl
                                have hcz37_1 : wr.cell? ⟨gb311, 1, none⟩ = some (.int .i64 a0_1) := (blk_cell BK311.out 1).trans rfl
                                have hcz37_2 : wr.cell? ⟨gb311, 2, none⟩ = some (.int .i64 a0_2) := (blk_cell BK311.out 2).trans rfl
                                have hcz37_3 : wr.cell? ⟨gb311, 3, none⟩ = some (.int .i64 a0_3) := (blk_cell BK311.out 3).trans rfl
                                have hcz37_4 : wr.cell? ⟨gb311, 4, none⟩ = some (.int .i64 a0_4) := (blk_cell BK311.out 4).trans rfl
                                have hcz37_5 : wr.cell? ⟨gb311, 5, none⟩ = some (.int .i64 a0_5) := (blk_cell BK311.out 5).trans rfl
                                have hcz37_6 : wr.cell? ⟨gb311, 6, none⟩ = some (.int .i64 a0_6) := (blk_cell BK311.out 6).trans rfl
                                have hcz37_7 : wr.cell? ⟨gb311, 7, none⟩ = some (.int .i64 a0_7) := (blk_cell BK311.out 7).trans rfl
                                have hcz37_8 : wr.cell? ⟨gb311, 8, none⟩ = some (.int .i64 a0_8) := (blk_cell BK311.out 8).trans rfl
                                have hcz37_9 : wr.cell? ⟨gb311, 9, none⟩ = some (.slice A0_9 l0_9.length c0_9) := (blk_cell BK311.out 9).trans rfl
                                have hcz37_10 : wr.cell? ⟨gb311, 10, none⟩ = some (.slice (some ad314) l0_10.length c0_10) := (blk_cell BK311.out 10).trans rfl
                                have hcz37_11 : wr.cell? ⟨gb311, 11, none⟩ = some (.slice (some ad313) l0_11.length c0_11) := (blk_cell BK311.out 11).trans rfl
                                have hfz37_0 := blk_frozen BK311.out 0
                                have hfz37_1 := blk_frozen BK311.out 1
                                have hfz37_2 := blk_frozen BK311.out 2
                                have hfz37_3 := blk_frozen BK311.out 3
                                have hfz37_4 := blk_frozen BK311.out 4
                                have hfz37_5 := blk_frozen BK311.out 5
                                have hfz37_6 := blk_frozen BK311.out 6
                                have hfz37_7 := blk_frozen BK311.out 7
                                have hfz37_8 := blk_frozen BK311.out 8
                                have hfz37_9 := blk_frozen BK311.out 9
                                have hfz37_10 := blk_frozen BK311.out 10
                                have hfz37_11 := blk_frozen BK311.out 11
                                try go_wp2
                                have n0_ := Aside0.mk (blk_drew BK311.out)
                                have n1_ := Aside0.mk (below_drew1 HB.out)
                                clear BK311
                                clear HB
                                have BK311 := n0_
                                have HB := n1_
                                clear n0_ n1_
                                refine start_ (n := 9) (S := fun w' => w'.cell? ⟨gb311, 0, none⟩ = some (.int .i64 a0_0) ∧ w'.cell? ⟨gb311, 1, none⟩ = some (.int .i64 a0_1) ∧ w'.cell? ⟨gb311, 2, none⟩ = some (.int .i64 a0_2) ∧ w'.cell? ⟨gb311, 3, none⟩ = some (.int .i64 a0_3) ∧ w'.cell? ⟨gb311, 4, none⟩ = some (.int .i64 a0_4) ∧ w'.cell? ⟨gb311, 5, none⟩ = some (.int .i64 a0_5) ∧ w'.cell? ⟨gb311, 6, none⟩ = some (.int .i64 a0_6) ∧ w'.cell? ⟨gb311, 7, none⟩ = some (.int .i64 a0_7) ∧ w'.cell? ⟨gb311, 8, none⟩ = some (.int .i64 a0_8) ∧ w'.cell? ⟨gb311, 9, none⟩ = some (.slice A0_9 l0_9.length c0_9) ∧ w'.cell? ⟨gb311, 10, none⟩ = some (.slice (some ad314) l0_10.length c0_10) ∧ w'.cell? ⟨gb311, 11, none⟩ = some (.slice (some ad313) l0_11.length c0_11)) (ds := []) #[false, false, false, false, false, false, false, false, false] (by kernel_rfl) rfl rfl ⟨(blk_cell BK311.out 0).trans rfl, (blk_cell BK311.out 1).trans rfl, (blk_cell BK311.out 2).trans rfl, (blk_cell BK311.out 3).trans rfl, (blk_cell BK311.out 4).trans rfl, (blk_cell BK311.out 5).trans rfl, (blk_cell BK311.out 6).trans rfl, (blk_cell BK311.out 7).trans rfl, (blk_cell BK311.out 8).trans rfl, (blk_cell BK311.out 9).trans rfl, (blk_cell BK311.out 10).trans rfl, (blk_cell BK311.out 11).trans rfl⟩ (fun hHeld => ?_); refine with_tabW hornbeamref19_Check.tab16 hornbeamref19_Check.bits16 (fun HT_ HW_ => ?_)
                                generalize wr.drew = w38 at BK311 HB hHeld ⊢
                                refine pure_ (i := 0) (N := some 60) (v := ?_) (a' := ?_) #[true, false, false, false, false, false, false, false, false] rfl rfl (any_of HT_.out (by kernel_rfl)) (fun _ _ _ h => h) (Or.inl ⟨by rfl, ?_⟩) ?_ ?_
                                rotate_left
                                · intro w'
                                  go_simp
                                  with_reducible rfl
                                rotate_left
                                · simp only [Act.put, List.setIfInBounds_toArray, List.set_cons_zero, List.set_cons_succ, i64_w, i32_w]
                                  rfl
                                refine pure_ (i := 2) (N := some 62) (v := ?_) (a' := ?_) #[true, false, true, false, false, false, false, false, false] rfl rfl (any_of HT_.out (by kernel_rfl)) (fun _ _ _ h => h) (Or.inl ⟨by rfl, ?_⟩) ?_ ?_
                                rotate_left
                                · intro w'
                                  go_simp
                                  with_reducible rfl
                                rotate_left
                                · simp only [Act.put, List.setIfInBounds_toArray, List.set_cons_zero, List.set_cons_succ, i64_w, i32_w]
                                  rfl
                                refine pure_ (i := 3) (N := some 63) (v := ?_) (a' := ?_) #[true, false, true, true, false, false, false, false, false] rfl rfl (any_of HT_.out (by kernel_rfl)) (fun _ _ _ h => h) (Or.inl ⟨by rfl, ?_⟩) ?_ ?_
                                rotate_left
                                · intro w'
                                  go_simp
                                  with_reducible rfl
                                rotate_left
                                · simp only [Act.put, List.setIfInBounds_toArray, List.set_cons_zero, List.set_cons_succ, i64_w, i32_w]
                                  rfl
                                refine pure_ (i := 5) (N := some 65) (v := ?_) (a' := ?_) #[true, false, true, true, false, true, false, false, false] rfl rfl (any_of HT_.out (by kernel_rfl)) (fun _ _ _ h => h) (Or.inl ⟨by rfl, ?_⟩) ?_ ?_
                                rotate_left
                                · intro w'
                                  go_simp
                                  with_reducible rfl
                                rotate_left
                                · simp only [Act.put, List.setIfInBounds_toArray, List.set_cons_zero, List.set_cons_succ, i64_w, i32_w]
                                  rfl
                                refine pure_ (i := 6) (N := some 66) (v := ?_) (a' := ?_) #[true, false, true, true, false, true, true, false, false] rfl rfl (any_of HT_.out (by kernel_rfl)) (fun _ _ _ h => h) (Or.inl ⟨by rfl, ?_⟩) ?_ ?_
                                rotate_left
                                · intro w'
                                  go_simp
                                  with_reducible rfl
                                rotate_left
                                · simp only [Act.put, List.setIfInBounds_toArray, List.set_cons_zero, List.set_cons_succ, i64_w, i32_w]
                                  rfl
                                refine take_ (i := 1) (N := some 61) (v := ?_) (a' := ?_) #[true, true, true, true, false, true, true, false, false] rfl rfl (take_ofW HT_.out HW_.out (by kernel_rfl)) (fun _ _ _ h => h) (Or.inl ⟨by rfl, ?_⟩) hHeld ?_ ?_
                                rotate_left
                                · rintro w' ⟨s0, s1, s2, s3, s4, s5, s6, s7, s8, s9, s10, s11⟩
                                  go_simp
                                  with_reducible rfl
                                rotate_left
                                · simp only [Act.put, List.setIfInBounds_toArray, List.set_cons_zero, List.set_cons_succ, i64_w, i32_w]
                                  rfl
                                refine take_ (i := 7) (N := some 67) (v := ?_) (a' := ?_) #[true, true, true, true, false, true, true, true, false] rfl rfl (take_ofW HT_.out HW_.out (by kernel_rfl)) (fun _ _ _ h => h) (Or.inl ⟨by rfl, ?_⟩) hHeld ?_ ?_
                                rotate_left
                                · rintro w' ⟨s0, s1, s2, s3, s4, s5, s6, s7, s8, s9, s10, s11⟩
                                  go_simp
                                  with_reducible rfl
                                rotate_left
                                · simp only [Act.put, List.setIfInBounds_toArray, List.set_cons_zero, List.set_cons_succ, i64_w, i32_w]
                                  rfl
                                refine one_ (i := 4) (N := some 64) #[true, true, true, true, true, true, true, true, false] rfl rfl (one_of HT_.out (by kernel_rfl)) (by decide) (fun K hK => ?_)
                                refine goes_ Tryz.func26 (by kernel_rfl) rfl #[.agg #[.int .i64 a0_7, .int .i64 a0_8, .slice A0_9 l0_9.length c0_9], .int .i64 x5_2, .int .i64 x7_3] (by rfl) rfl rfl (by (try simp only [List.map_toArray, List.map_cons, List.map_nil]); first | done | rfl | (simp only [List.length_drop, List.length_take]; rfl)) ?_
                                with_reducible refine (hornbeamref11_Cell.calls a0_7 a0_8 _ _ l0_9 x5_2 x7_3 t316 _ ?side1 ?side2 A32.out).mono ?_
                                (case side1 => repeat (first | exact (Kd.C_below HR0_9.out HB.out) | (with_reducible refine Kd.C_alloc ?_ _) | (with_reducible refine Kd.C_drewN ?_ _) | (with_reducible refine Kd.C_drew ?_)))
                                (case side2 => exact HC0_9.out)
                                rintro e w39 ⟨rfl, hb⟩
                                refine ⟨_, rfl, ?_⟩
                                have n0_ := Aside0.mk (blk_below (g := gb311) (o := .cells #[.int .i64 a0_0, .int .i64 a0_1, .int .i64 a0_2, .int .i64 a0_3, .int .i64 a0_4, .int .i64 a0_5, .int .i64 a0_6, .int .i64 a0_7, .int .i64 a0_8, .slice A0_9 l0_9.length c0_9, .slice (some ad314) l0_10.length c0_10, .slice (some ad313) l0_11.length c0_11] 30 (0, 0)) (by (with_reducible repeat (first | refine blk_drewN ?_ _ | refine blk_drew ?_ | refine blk_alloc ?_ _)); exact BK311.out) hb)
                                have n1_ := Aside0.mk (below_step (by repeat (first | (with_reducible first | exact HB.out | apply below_alloc | apply pw_below_drewN | apply below_drew1 | refine below_set ?_ GE311.out) | exact HB.out)) hb)
                                clear BK311
                                clear HB
                                have BK311 := n0_
                                have HB := n1_
                                clear n0_ n1_
                                (try clear hb)
                                (try clear hb2)
                                (try clear hk)
                                (try clear hi)
                                refine hK.out _ _ ⟨(blk_cell BK311.out 0).trans rfl, (blk_cell BK311.out 1).trans rfl, (blk_cell BK311.out 2).trans rfl, (blk_cell BK311.out 3).trans rfl, (blk_cell BK311.out 4).trans rfl, (blk_cell BK311.out 5).trans rfl, (blk_cell BK311.out 6).trans rfl, (blk_cell BK311.out 7).trans rfl, (blk_cell BK311.out 8).trans rfl, (blk_cell BK311.out 9).trans rfl, (blk_cell BK311.out 10).trans rfl, (blk_cell BK311.out 11).trans rfl⟩ (fun hHeld => ?_)
                                clear hK K
                                refine norm_ (a' := ?_) ?_ ?_
                                rotate_left
                                · show Act.put _ (some 64) _ = _
                                  simp only [Act.put, List.setIfInBounds_toArray, List.set_cons_zero, List.set_cons_succ, i64_w, i32_w]
                                  rfl
                                refine pure_ (i := 8) (N := some 68) (v := ?_) (a' := ?_) #[true, true, true, true, true, true, true, true, true] rfl rfl (any_of HT_.out (by kernel_rfl)) (fun _ _ _ h => h) (Or.inl ⟨by rfl, ?_⟩) ?_ ?_
                                rotate_left
                                · intro w'
                                  go_simp
                                  with_reducible rfl
                                rotate_left
                                · simp only [Act.put, List.setIfInBounds_toArray, List.set_cons_zero, List.set_cons_succ, i64_w, i32_w]
                                  rfl
                                refine done_ (done_of HT_.out (by kernel_rfl)) ?_
                                try go_wp2
                                go_roundg k3
                                case measure => have := HJ1.out; have := HK2.out; have := HK3.out; omega
                                case rel => exact ⟨(wrap64 (x7_3 + 1)), (by first | rfl | (simp; done) | (simp [*]; done)), H', ⟨by have := HJ1.out; have := HK2.out; have := HK3.out; omega⟩, ⟨by (with_reducible repeat (first | refine blk_drewN ?_ _ | refine blk_drew ?_ | refine blk_alloc ?_ _)); exact BK311.out⟩, ⟨by repeat (first | (with_reducible first | exact HB.out | apply below_alloc | apply pw_below_drewN | apply below_drew1 | refine below_set ?_ GE311.out) | exact HB.out)⟩⟩
                            · rw [if_neg c31] at H
                              have c31b0 : decide (x7_3 < a0_8) = false := decide_eq_false c31
                              clear c31
                              by_cases c40 : 0 ≤ x5_2
                              · rw [if_pos c40] at H
                                have c40b0 : decide (0 ≤ x5_2) = true := decide_eq_true c40
                                clear c40
                                by_cases c41 : x5_2 < (l0_11.length : Int)
                                · rw [if_pos c41] at H
                                  have c41b0 : decide (x5_2 < (l0_11.length : Int)) = true := decide_eq_true c41
                                  clear c41
                                  by_cases c42 : (rd l0_11 x5_2) > x3_2
                                  · rw [if_pos c42] at H
                                    have c42b0 : decide (x3_2 < (rd l0_11 x5_2)) = true := decide_eq_true c42
                                    clear c42
                                    have H' := Aside0.mk H
                                    clear H
                                    have hcz43_0 : wr.cell? ⟨gb311, 0, none⟩ = some (.int .i64 a0_0) := (blk_cell BK311.out 0).trans rfl
                                    have hcz43_1 : wr.cell? ⟨gb311, 1, none⟩ = some (.int .i64 a0_1) := (blk_cell BK311.out 1).trans rfl
                                    have hcz43_2 : wr.cell? ⟨gb311, 2, none⟩ = some (.int .i64 a0_2) := (blk_cell BK311.out 2).trans rfl
                                    have hcz43_3 : wr.cell? ⟨gb311, 3, none⟩ = some (.int .i64 a0_3) := (blk_cell BK311.out 3).trans rfl
                                    have hcz43_4 : wr.cell? ⟨gb311, 4, none⟩ = some (.int .i64 a0_4) := (blk_cell BK311.out 4).trans rfl
                                    have hcz43_5 : wr.cell? ⟨gb311, 5, none⟩ = some (.int .i64 a0_5) := (blk_cell BK311.out 5).trans rfl
                                    have hcz43_6 : wr.cell? ⟨gb311, 6, none⟩ = some (.int .i64 a0_6) := (blk_cell BK311.out 6).trans rfl
                                    have hcz43_7 : wr.cell? ⟨gb311, 7, none⟩ = some (.int .i64 a0_7) := (blk_cell BK311.out 7).trans rfl
                                    have hcz43_8 : wr.cell? ⟨gb311, 8, none⟩ = some (.int .i64 a0_8) := (blk_cell BK311.out 8).trans rfl
                                    have hcz43_9 : wr.cell? ⟨gb311, 9, none⟩ = some (.slice A0_9 l0_9.length c0_9) := (blk_cell BK311.out 9).trans rfl
                                    have hcz43_10 : wr.cell? ⟨gb311, 10, none⟩ = some (.slice (some ad314) l0_10.length c0_10) := (blk_cell BK311.out 10).trans rfl
                                    have hcz43_11 : wr.cell? ⟨gb311, 11, none⟩ = some (.slice (some ad313) l0_11.length c0_11) := (blk_cell BK311.out 11).trans rfl
                                    have hfz43_0 := blk_frozen BK311.out 0
                                    have hfz43_1 := blk_frozen BK311.out 1
                                    have hfz43_2 := blk_frozen BK311.out 2
                                    have hfz43_3 := blk_frozen BK311.out 3
                                    have hfz43_4 := blk_frozen BK311.out 4
                                    have hfz43_5 := blk_frozen BK311.out 5
                                    have hfz43_6 := blk_frozen BK311.out 6
                                    have hfz43_7 := blk_frozen BK311.out 7
                                    have hfz43_8 := blk_frozen BK311.out 8
                                    have hfz43_9 := blk_frozen BK311.out 9
                                    have hfz43_10 := blk_frozen BK311.out 10
                                    have hfz43_11 := blk_frozen BK311.out 11
                                    have p317 : 0 ≤ (x5_2 : Int) := of_decide_eq_true (by first | (with_reducible assumption) | assumption)
                                    have q317 : x5_2 < (l0_11.length : Int) := of_decide_eq_true (by first | (with_reducible assumption) | assumption)
                                    obtain ⟨ad317, e317, hx317_0⟩ := Kd.at_int HR0_11.out x5_2 p317 q317
                                    obtain rfl : ad313 = ad317 := (by injection e317)
                                    replace hx317_0 := (HB.out.cell (World.block_lt_of_cell? w _ hx317_0)).trans hx317_0
                                    replace p317 := eq_true p317
                                    replace q317 := eq_true q317
                                    go_wp2
                                    go_roundg k3
                                    case measure => have := HJ1.out; have := HK2.out; have := HK3.out; omega
                                    case rel => exact ⟨(x3_2), (true), (wrap64 (x5_2 + 1)), (by first | rfl | (simp; done) | (simp [*]; done)), (by first | rfl | (simp; done) | (simp [*]; done)), (by first | rfl | (simp; done) | (simp [*]; done)), H', ⟨by have := HJ1.out; have := HK2.out; have := HK3.out; omega⟩, ⟨by (with_reducible repeat (first | refine blk_drewN ?_ _ | refine blk_drew ?_ | refine blk_alloc ?_ _)); exact BK311.out⟩, ⟨by repeat (first | (with_reducible first | exact HB.out | apply below_alloc | apply pw_below_drewN | apply below_drew1 | refine below_set ?_ GE311.out) | exact HB.out)⟩⟩
                                  · rw [if_neg c42] at H
                                    have c42b0 : decide (x3_2 < (rd l0_11 x5_2)) = false := decide_eq_false c42
                                    clear c42
                                    have H' := Aside0.mk H
                                    clear H
                                    have hcz44_0 : wr.cell? ⟨gb311, 0, none⟩ = some (.int .i64 a0_0) := (blk_cell BK311.out 0).trans rfl
                                    have hcz44_1 : wr.cell? ⟨gb311, 1, none⟩ = some (.int .i64 a0_1) := (blk_cell BK311.out 1).trans rfl
                                    have hcz44_2 : wr.cell? ⟨gb311, 2, none⟩ = some (.int .i64 a0_2) := (blk_cell BK311.out 2).trans rfl
                                    have hcz44_3 : wr.cell? ⟨gb311, 3, none⟩ = some (.int .i64 a0_3) := (blk_cell BK311.out 3).trans rfl
                                    have hcz44_4 : wr.cell? ⟨gb311, 4, none⟩ = some (.int .i64 a0_4) := (blk_cell BK311.out 4).trans rfl
                                    have hcz44_5 : wr.cell? ⟨gb311, 5, none⟩ = some (.int .i64 a0_5) := (blk_cell BK311.out 5).trans rfl
                                    have hcz44_6 : wr.cell? ⟨gb311, 6, none⟩ = some (.int .i64 a0_6) := (blk_cell BK311.out 6).trans rfl
                                    have hcz44_7 : wr.cell? ⟨gb311, 7, none⟩ = some (.int .i64 a0_7) := (blk_cell BK311.out 7).trans rfl
                                    have hcz44_8 : wr.cell? ⟨gb311, 8, none⟩ = some (.int .i64 a0_8) := (blk_cell BK311.out 8).trans rfl
                                    have hcz44_9 : wr.cell? ⟨gb311, 9, none⟩ = some (.slice A0_9 l0_9.length c0_9) := (blk_cell BK311.out 9).trans rfl
                                    have hcz44_10 : wr.cell? ⟨gb311, 10, none⟩ = some (.slice (some ad314) l0_10.length c0_10) := (blk_cell BK311.out 10).trans rfl
                                    have hcz44_11 : wr.cell? ⟨gb311, 11, none⟩ = some (.slice (some ad313) l0_11.length c0_11) := (blk_cell BK311.out 11).trans rfl
                                    have hfz44_0 := blk_frozen BK311.out 0
                                    have hfz44_1 := blk_frozen BK311.out 1
                                    have hfz44_2 := blk_frozen BK311.out 2
                                    have hfz44_3 := blk_frozen BK311.out 3
                                    have hfz44_4 := blk_frozen BK311.out 4
                                    have hfz44_5 := blk_frozen BK311.out 5
                                    have hfz44_6 := blk_frozen BK311.out 6
                                    have hfz44_7 := blk_frozen BK311.out 7
                                    have hfz44_8 := blk_frozen BK311.out 8
                                    have hfz44_9 := blk_frozen BK311.out 9
                                    have hfz44_10 := blk_frozen BK311.out 10
                                    have hfz44_11 := blk_frozen BK311.out 11
                                    have p317 : 0 ≤ (x5_2 : Int) := of_decide_eq_true (by first | (with_reducible assumption) | assumption)
                                    have q317 : x5_2 < (l0_11.length : Int) := of_decide_eq_true (by first | (with_reducible assumption) | assumption)
                                    obtain ⟨ad317, e317, hx317_0⟩ := Kd.at_int HR0_11.out x5_2 p317 q317
                                    obtain rfl : ad313 = ad317 := (by injection e317)
                                    replace hx317_0 := (HB.out.cell (World.block_lt_of_cell? w _ hx317_0)).trans hx317_0
                                    replace p317 := eq_true p317
                                    replace q317 := eq_true q317
                                    have p318 : 0 ≤ (x5_2 : Int) := of_decide_eq_true (by first | (with_reducible assumption) | assumption)
                                    have q318 : x5_2 < (l0_11.length : Int) := of_decide_eq_true (by first | (with_reducible assumption) | assumption)
                                    obtain ⟨ad318, e318, hx318_0⟩ := Kd.at_int HR0_11.out x5_2 p318 q318
                                    obtain rfl : ad313 = ad318 := (by injection e318)
                                    replace hx318_0 := (HB.out.cell (World.block_lt_of_cell? w _ hx318_0)).trans hx318_0
                                    replace p318 := eq_true p318
                                    replace q318 := eq_true q318
                                    go_wp2
                                    go_roundg k3
                                    case measure => have := HJ1.out; have := HK2.out; have := HK3.out; omega
                                    case rel => exact ⟨(wrap64 (x3_2 - (rd l0_11 x5_2))), (x4_2), (wrap64 (x5_2 + 1)), (by first | rfl | (simp; done) | (simp [*]; done)), (by first | rfl | (simp; done) | (simp [*]; done)), (by first | rfl | (simp; done) | (simp [*]; done)), H', ⟨by have := HJ1.out; have := HK2.out; have := HK3.out; omega⟩, ⟨by (with_reducible repeat (first | refine blk_drewN ?_ _ | refine blk_drew ?_ | refine blk_alloc ?_ _)); exact BK311.out⟩, ⟨by repeat (first | (with_reducible first | exact HB.out | apply below_alloc | apply pw_below_drewN | apply below_drew1 | refine below_set ?_ GE311.out) | exact HB.out)⟩⟩
                                · rw [if_neg c41] at H
                                  exact absurd H (by simp)
                              · rw [if_neg c40] at H
                                exact absurd H (by simp)
                      · rw [if_neg c27] at H
                        have c27b0 : (t315 == 0) = false := beq_eq_false_iff_ne.mpr c27
                        have c27b1 : (t315 != 0) = true := bne_iff_ne.mpr c27
                        obtain rfl := Option.some.inj H
                        have hcz45_0 : wr.cell? ⟨gb311, 0, none⟩ = some (.int .i64 a0_0) := (blk_cell BK311.out 0).trans rfl
                        have hcz45_1 : wr.cell? ⟨gb311, 1, none⟩ = some (.int .i64 a0_1) := (blk_cell BK311.out 1).trans rfl
                        have hcz45_2 : wr.cell? ⟨gb311, 2, none⟩ = some (.int .i64 a0_2) := (blk_cell BK311.out 2).trans rfl
                        have hcz45_3 : wr.cell? ⟨gb311, 3, none⟩ = some (.int .i64 a0_3) := (blk_cell BK311.out 3).trans rfl
                        have hcz45_4 : wr.cell? ⟨gb311, 4, none⟩ = some (.int .i64 a0_4) := (blk_cell BK311.out 4).trans rfl
                        have hcz45_5 : wr.cell? ⟨gb311, 5, none⟩ = some (.int .i64 a0_5) := (blk_cell BK311.out 5).trans rfl
                        have hcz45_6 : wr.cell? ⟨gb311, 6, none⟩ = some (.int .i64 a0_6) := (blk_cell BK311.out 6).trans rfl
                        have hcz45_7 : wr.cell? ⟨gb311, 7, none⟩ = some (.int .i64 a0_7) := (blk_cell BK311.out 7).trans rfl
                        have hcz45_8 : wr.cell? ⟨gb311, 8, none⟩ = some (.int .i64 a0_8) := (blk_cell BK311.out 8).trans rfl
                        have hcz45_9 : wr.cell? ⟨gb311, 9, none⟩ = some (.slice A0_9 l0_9.length c0_9) := (blk_cell BK311.out 9).trans rfl
                        have hcz45_10 : wr.cell? ⟨gb311, 10, none⟩ = some (.slice A0_10 l0_10.length c0_10) := (blk_cell BK311.out 10).trans rfl
                        have hcz45_11 : wr.cell? ⟨gb311, 11, none⟩ = some (.slice A0_11 l0_11.length c0_11) := (blk_cell BK311.out 11).trans rfl
                        have hfz45_0 := blk_frozen BK311.out 0
                        have hfz45_1 := blk_frozen BK311.out 1
                        have hfz45_2 := blk_frozen BK311.out 2
                        have hfz45_3 := blk_frozen BK311.out 3
                        have hfz45_4 := blk_frozen BK311.out 4
                        have hfz45_5 := blk_frozen BK311.out 5
                        have hfz45_6 := blk_frozen BK311.out 6
                        have hfz45_7 := blk_frozen BK311.out 7
                        have hfz45_8 := blk_frozen BK311.out 8
                        have hfz45_9 := blk_frozen BK311.out 9
                        have hfz45_10 := blk_frozen BK311.out 10
                        have hfz45_11 := blk_frozen BK311.out 11
                        have p313 : 0 ≤ (x5_2 : Int) := of_decide_eq_true (by first | (with_reducible assumption) | assumption)
                        have q313 : x5_2 < (l0_11.length : Int) := of_decide_eq_true (by first | (with_reducible assumption) | assumption)
                        obtain ⟨ad313, e313, hx313_0⟩ := Kd.at_int HR0_11.out x5_2 p313 q313
                        cases e313
                        replace hx313_0 := (HB.out.cell (World.block_lt_of_cell? w _ hx313_0)).trans hx313_0
                        replace p313 := eq_true p313
                        replace q313 := eq_true q313
                        try go_wp2
                        have n0_ := Aside0.mk (blk_drew BK311.out)
                        have n1_ := Aside0.mk (below_drew1 HB.out)
                        clear BK311
                        clear HB
                        have BK311 := n0_
                        have HB := n1_
                        clear n0_ n1_
                        have p314 : 0 ≤ (x5_2 : Int) := of_decide_eq_true (by first | (with_reducible assumption) | assumption)
                        have q314 : x5_2 < (l0_10.length : Int) := of_decide_eq_true (by first | (with_reducible assumption) | assumption)
                        obtain ⟨ad314, e314, hx314_0⟩ := Kd.at_int HR0_10.out x5_2 p314 q314
                        have hw314_0 := hx314_0
                        cases e314
                        replace hx314_0 := (HB.out.cell (World.block_lt_of_cell? w _ hx314_0)).trans hx314_0
                        replace p314 := eq_true p314
                        replace q314 := eq_true q314
                        refine start_ (n := 9) (S := fun w' => w'.cell? ⟨gb311, 0, none⟩ = some (.int .i64 a0_0) ∧ w'.cell? ⟨gb311, 1, none⟩ = some (.int .i64 a0_1) ∧ w'.cell? ⟨gb311, 2, none⟩ = some (.int .i64 a0_2) ∧ w'.cell? ⟨gb311, 3, none⟩ = some (.int .i64 a0_3) ∧ w'.cell? ⟨gb311, 4, none⟩ = some (.int .i64 a0_4) ∧ w'.cell? ⟨gb311, 5, none⟩ = some (.int .i64 a0_5) ∧ w'.cell? ⟨gb311, 6, none⟩ = some (.int .i64 a0_6) ∧ w'.cell? ⟨gb311, 7, none⟩ = some (.int .i64 a0_7) ∧ w'.cell? ⟨gb311, 8, none⟩ = some (.int .i64 a0_8) ∧ w'.cell? ⟨gb311, 9, none⟩ = some (.slice A0_9 l0_9.length c0_9) ∧ w'.cell? ⟨gb311, 10, none⟩ = some (.slice (some ad314) l0_10.length c0_10) ∧ w'.cell? ⟨gb311, 11, none⟩ = some (.slice (some ad313) l0_11.length c0_11) ∧ w'.cell? (ad314.add (x5_2).toNat) = some (.int .i64 (rd l0_10 x5_2))) (ds := []) #[false, false, false, false, false, false, false, false, false] (by kernel_rfl) rfl rfl ⟨(blk_cell BK311.out 0).trans rfl, (blk_cell BK311.out 1).trans rfl, (blk_cell BK311.out 2).trans rfl, (blk_cell BK311.out 3).trans rfl, (blk_cell BK311.out 4).trans rfl, (blk_cell BK311.out 5).trans rfl, (blk_cell BK311.out 6).trans rfl, (blk_cell BK311.out 7).trans rfl, (blk_cell BK311.out 8).trans rfl, (blk_cell BK311.out 9).trans rfl, (blk_cell BK311.out 10).trans rfl, (blk_cell BK311.out 11).trans rfl, ((HB.out.cell (World.block_lt_of_cell? w _ hw314_0)).trans hw314_0)⟩ (fun hHeld => ?_); refine with_tabW hornbeamref19_Check.tab10 hornbeamref19_Check.bits10 (fun HT_ HW_ => ?_)
                        generalize wr.drew = w46 at BK311 HB hx314_0 hHeld ⊢
                        refine pure_ (i := 0) (N := some 42) (v := ?_) (a' := ?_) #[true, false, false, false, false, false, false, false, false] rfl rfl (any_of HT_.out (by kernel_rfl)) (fun _ _ _ h => h) (Or.inl ⟨by rfl, ?_⟩) ?_ ?_
                        rotate_left
                        · intro w'
                          go_simp
                          with_reducible rfl
                        rotate_left
                        · simp only [Act.put, List.setIfInBounds_toArray, List.set_cons_zero, List.set_cons_succ, i64_w, i32_w]
                          rfl
                        refine pure_ (i := 2) (N := some 44) (v := ?_) (a' := ?_) #[true, false, true, false, false, false, false, false, false] rfl rfl (any_of HT_.out (by kernel_rfl)) (fun _ _ _ h => h) (Or.inl ⟨by rfl, ?_⟩) ?_ ?_
                        rotate_left
                        · intro w'
                          go_simp
                          with_reducible rfl
                        rotate_left
                        · simp only [Act.put, List.setIfInBounds_toArray, List.set_cons_zero, List.set_cons_succ, i64_w, i32_w]
                          rfl
                        refine pure_ (i := 4) (N := some 46) (v := ?_) (a' := ?_) #[true, false, true, false, true, false, false, false, false] rfl rfl (any_of HT_.out (by kernel_rfl)) (fun _ _ _ h => h) (Or.inl ⟨by rfl, ?_⟩) ?_ ?_
                        rotate_left
                        · intro w'
                          go_simp
                          with_reducible rfl
                        rotate_left
                        · simp only [Act.put, List.setIfInBounds_toArray, List.set_cons_zero, List.set_cons_succ, i64_w, i32_w]
                          rfl
                        refine take_ (i := 1) (N := some 43) (v := ?_) (a' := ?_) #[true, true, true, false, true, false, false, false, false] rfl rfl (take_ofW HT_.out HW_.out (by kernel_rfl)) (fun _ _ _ h => h) (Or.inl ⟨by rfl, ?_⟩) hHeld ?_ ?_
                        rotate_left
                        · rintro w' ⟨s0, s1, s2, s3, s4, s5, s6, s7, s8, s9, s10, s11, s12⟩
                          go_simp
                          with_reducible rfl
                        rotate_left
                        · simp only [Act.put, List.setIfInBounds_toArray, List.set_cons_zero, List.set_cons_succ, i64_w, i32_w]
                          rfl
                        refine take_ (i := 3) (N := some 45) (v := ?_) (a' := ?_) #[true, true, true, true, true, false, false, false, false] rfl rfl (take_ofW HT_.out HW_.out (by kernel_rfl)) (fun _ _ _ h => h) (Or.inl ⟨by rfl, ?_⟩) hHeld ?_ ?_
                        rotate_left
                        · rintro w' ⟨s0, s1, s2, s3, s4, s5, s6, s7, s8, s9, s10, s11, s12⟩
                          go_simp
                          with_reducible rfl
                        rotate_left
                        · simp only [Act.put, List.setIfInBounds_toArray, List.set_cons_zero, List.set_cons_succ, i64_w, i32_w]
                          rfl
                        refine pure_ (i := 5) (N := some 47) (v := ?_) (a' := ?_) #[true, true, true, true, true, true, false, false, false] rfl rfl (any_of HT_.out (by kernel_rfl)) (fun _ _ _ h => h) (Or.inl ⟨by rfl, ?_⟩) ?_ ?_
                        rotate_left
                        · intro w'
                          go_simp
                          with_reducible rfl
                        rotate_left
                        · simp only [Act.put, List.setIfInBounds_toArray, List.set_cons_zero, List.set_cons_succ, i64_w, i32_w]
                          rfl
                        refine take_ (i := 6) (N := some 48) (v := ?_) (a' := ?_) #[true, true, true, true, true, true, true, false, false] rfl rfl (take_ofW HT_.out HW_.out (by kernel_rfl)) (fun _ _ _ h => h) (Or.inl ⟨by rfl, ?_⟩) hHeld ?_ ?_
                        rotate_left
                        · rintro w' ⟨s0, s1, s2, s3, s4, s5, s6, s7, s8, s9, s10, s11, s12⟩
                          go_simp
                          with_reducible rfl
                        rotate_left
                        · simp only [Act.put, List.setIfInBounds_toArray, List.set_cons_zero, List.set_cons_succ, i64_w, i32_w]
                          rfl
                        refine one_ (i := 7) (N := some 49) #[true, true, true, true, true, true, true, true, false] rfl rfl (one_of HT_.out (by kernel_rfl)) (by decide) (fun K hK => ?_)
                        refine goes_ Tryz.func25 (by kernel_rfl) rfl #[.agg #[.int .i64 a0_0, .int .i64 a0_1, .int .i64 a0_2, .int .i64 a0_3, .int .i64 a0_4, .int .i64 a0_5, .int .i64 a0_6], .int .i64 (rd l0_10 x5_2)] (by rfl) rfl rfl (by (try simp only [List.map_toArray, List.map_cons, List.map_nil]); first | done | rfl | (simp only [List.length_drop, List.length_take]; rfl)) ?_
                        with_reducible refine (hornbeamref09_Target.calls k2 a0_0 a0_1 a0_2 a0_3 a0_4 a0_5 a0_6 (rd l0_10 x5_2) t315 _ A26.out).mono ?_
                        rintro e w47 ⟨rfl, hb⟩
                        refine ⟨_, rfl, ?_⟩
                        have n0_ := Aside0.mk (blk_below (g := gb311) (o := .cells #[.int .i64 a0_0, .int .i64 a0_1, .int .i64 a0_2, .int .i64 a0_3, .int .i64 a0_4, .int .i64 a0_5, .int .i64 a0_6, .int .i64 a0_7, .int .i64 a0_8, .slice A0_9 l0_9.length c0_9, .slice (some ad314) l0_10.length c0_10, .slice (some ad313) l0_11.length c0_11] 30 (0, 0)) (by (with_reducible repeat (first | refine blk_drewN ?_ _ | refine blk_drew ?_ | refine blk_alloc ?_ _)); exact BK311.out) hb)
                        have n1_ := Aside0.mk (below_step (by repeat (first | (with_reducible first | exact HB.out | apply below_alloc | apply pw_below_drewN | apply below_drew1 | refine below_set ?_ GE311.out) | exact HB.out)) hb)
                        clear BK311
                        clear HB
                        have BK311 := n0_
                        have HB := n1_
                        clear n0_ n1_
                        (try clear hb)
                        (try clear hb2)
                        (try clear hk)
                        (try clear hi)
                        refine hK.out _ _ ⟨(blk_cell BK311.out 0).trans rfl, (blk_cell BK311.out 1).trans rfl, (blk_cell BK311.out 2).trans rfl, (blk_cell BK311.out 3).trans rfl, (blk_cell BK311.out 4).trans rfl, (blk_cell BK311.out 5).trans rfl, (blk_cell BK311.out 6).trans rfl, (blk_cell BK311.out 7).trans rfl, (blk_cell BK311.out 8).trans rfl, (blk_cell BK311.out 9).trans rfl, (blk_cell BK311.out 10).trans rfl, (blk_cell BK311.out 11).trans rfl, ((HB.out.cell (World.block_lt_of_cell? w _ hw314_0)).trans hw314_0)⟩ (fun hHeld => ?_)
                        clear hK K
                        refine norm_ (a' := ?_) ?_ ?_
                        rotate_left
                        · show Act.put _ (some 49) _ = _
                          simp only [Act.put, List.setIfInBounds_toArray, List.set_cons_zero, List.set_cons_succ, i64_w, i32_w]
                          rfl
                        refine pure_ (i := 8) (N := some 6) (v := ?_) (a' := ?_) #[true, true, true, true, true, true, true, true, true] rfl rfl (any_of HT_.out (by kernel_rfl)) (fun _ _ _ h => h) (Or.inl ⟨by rfl, ?_⟩) ?_ ?_
                        rotate_left
                        · intro w'
                          go_simp
                          with_reducible rfl
                        rotate_left
                        · simp only [Act.put, List.setIfInBounds_toArray, List.set_cons_zero, List.set_cons_succ, i64_w, i32_w]
                          rfl
                        refine done_ (done_of HT_.out (by kernel_rfl)) ?_
                        try go_wp2
                        go_ret
                        exact ⟨by first | rfl | (simp [errW_none, errW_some] <;> rfl) | (simp [*, errW_none, errW_some] <;> rfl), by repeat (first | (with_reducible first | exact HB.out | apply below_alloc | apply pw_below_drewN | apply below_drew1 | refine below_set ?_ GE311.out) | exact HB.out)⟩
                    · rw [if_neg c25] at H
                      exact absurd H (by simp)
                · rw [if_neg c22] at H
                  exact absurd H (by simp)
              · rw [if_neg c21] at H
                exact absurd H (by simp)
            · rw [if_neg c20] at H
              have c20b0 : decide (x5_2 < a0_7) = false := decide_eq_false c20
              clear c20
              by_cases c48 : x4_2 = true
              · subst c48
                have H1 : (some 4) = some r := by rw [if_pos rfl] at H; exact H
                clear H
                have H := H1
                clear H1
                obtain rfl := Option.some.inj H
                have hcz49_0 : wr.cell? ⟨gb311, 0, none⟩ = some (.int .i64 a0_0) := (blk_cell BK311.out 0).trans rfl
                have hcz49_1 : wr.cell? ⟨gb311, 1, none⟩ = some (.int .i64 a0_1) := (blk_cell BK311.out 1).trans rfl
                have hcz49_2 : wr.cell? ⟨gb311, 2, none⟩ = some (.int .i64 a0_2) := (blk_cell BK311.out 2).trans rfl
                have hcz49_3 : wr.cell? ⟨gb311, 3, none⟩ = some (.int .i64 a0_3) := (blk_cell BK311.out 3).trans rfl
                have hcz49_4 : wr.cell? ⟨gb311, 4, none⟩ = some (.int .i64 a0_4) := (blk_cell BK311.out 4).trans rfl
                have hcz49_5 : wr.cell? ⟨gb311, 5, none⟩ = some (.int .i64 a0_5) := (blk_cell BK311.out 5).trans rfl
                have hcz49_6 : wr.cell? ⟨gb311, 6, none⟩ = some (.int .i64 a0_6) := (blk_cell BK311.out 6).trans rfl
                have hcz49_7 : wr.cell? ⟨gb311, 7, none⟩ = some (.int .i64 a0_7) := (blk_cell BK311.out 7).trans rfl
                have hcz49_8 : wr.cell? ⟨gb311, 8, none⟩ = some (.int .i64 a0_8) := (blk_cell BK311.out 8).trans rfl
                have hcz49_9 : wr.cell? ⟨gb311, 9, none⟩ = some (.slice A0_9 l0_9.length c0_9) := (blk_cell BK311.out 9).trans rfl
                have hcz49_10 : wr.cell? ⟨gb311, 10, none⟩ = some (.slice A0_10 l0_10.length c0_10) := (blk_cell BK311.out 10).trans rfl
                have hcz49_11 : wr.cell? ⟨gb311, 11, none⟩ = some (.slice A0_11 l0_11.length c0_11) := (blk_cell BK311.out 11).trans rfl
                have hfz49_0 := blk_frozen BK311.out 0
                have hfz49_1 := blk_frozen BK311.out 1
                have hfz49_2 := blk_frozen BK311.out 2
                have hfz49_3 := blk_frozen BK311.out 3
                have hfz49_4 := blk_frozen BK311.out 4
                have hfz49_5 := blk_frozen BK311.out 5
                have hfz49_6 := blk_frozen BK311.out 6
                have hfz49_7 := blk_frozen BK311.out 7
                have hfz49_8 := blk_frozen BK311.out 8
                have hfz49_9 := blk_frozen BK311.out 9
                have hfz49_10 := blk_frozen BK311.out 10
                have hfz49_11 := blk_frozen BK311.out 11
                go_wp2
                go_ret
                exact ⟨by first | rfl | (simp [errW_none, errW_some] <;> rfl) | (simp [*, errW_none, errW_some] <;> rfl), by repeat (first | (with_reducible first | exact HB.out | apply below_alloc | apply pw_below_drewN | apply below_drew1 | refine below_set ?_ GE311.out) | exact HB.out)⟩
              · replace c48 := Bool.eq_false_iff.mpr c48
                subst c48
                have H1 : (if x3_2 = 1048576 then (some 1) else (some 0)) = some r := by rw [if_neg (show ¬ (false = true) by decide)] at H; exact H
                clear H
                have H := H1
                clear H1
                by_cases c50 : x3_2 = 1048576
                · rw [if_pos c50] at H
                  have c50b0 : (x3_2 == 1048576) = true := beq_iff_eq.mpr c50
                  have c50b1 : (x3_2 != 1048576) = false := bne_eq_false_iff_eq.mpr c50
                  clear c50
                  obtain rfl := Option.some.inj H
                  have hcz51_0 : wr.cell? ⟨gb311, 0, none⟩ = some (.int .i64 a0_0) := (blk_cell BK311.out 0).trans rfl
                  have hcz51_1 : wr.cell? ⟨gb311, 1, none⟩ = some (.int .i64 a0_1) := (blk_cell BK311.out 1).trans rfl
                  have hcz51_2 : wr.cell? ⟨gb311, 2, none⟩ = some (.int .i64 a0_2) := (blk_cell BK311.out 2).trans rfl
                  have hcz51_3 : wr.cell? ⟨gb311, 3, none⟩ = some (.int .i64 a0_3) := (blk_cell BK311.out 3).trans rfl
                  have hcz51_4 : wr.cell? ⟨gb311, 4, none⟩ = some (.int .i64 a0_4) := (blk_cell BK311.out 4).trans rfl
                  have hcz51_5 : wr.cell? ⟨gb311, 5, none⟩ = some (.int .i64 a0_5) := (blk_cell BK311.out 5).trans rfl
                  have hcz51_6 : wr.cell? ⟨gb311, 6, none⟩ = some (.int .i64 a0_6) := (blk_cell BK311.out 6).trans rfl
                  have hcz51_7 : wr.cell? ⟨gb311, 7, none⟩ = some (.int .i64 a0_7) := (blk_cell BK311.out 7).trans rfl
                  have hcz51_8 : wr.cell? ⟨gb311, 8, none⟩ = some (.int .i64 a0_8) := (blk_cell BK311.out 8).trans rfl
                  have hcz51_9 : wr.cell? ⟨gb311, 9, none⟩ = some (.slice A0_9 l0_9.length c0_9) := (blk_cell BK311.out 9).trans rfl
                  have hcz51_10 : wr.cell? ⟨gb311, 10, none⟩ = some (.slice A0_10 l0_10.length c0_10) := (blk_cell BK311.out 10).trans rfl
                  have hcz51_11 : wr.cell? ⟨gb311, 11, none⟩ = some (.slice A0_11 l0_11.length c0_11) := (blk_cell BK311.out 11).trans rfl
                  have hfz51_0 := blk_frozen BK311.out 0
                  have hfz51_1 := blk_frozen BK311.out 1
                  have hfz51_2 := blk_frozen BK311.out 2
                  have hfz51_3 := blk_frozen BK311.out 3
                  have hfz51_4 := blk_frozen BK311.out 4
                  have hfz51_5 := blk_frozen BK311.out 5
                  have hfz51_6 := blk_frozen BK311.out 6
                  have hfz51_7 := blk_frozen BK311.out 7
                  have hfz51_8 := blk_frozen BK311.out 8
                  have hfz51_9 := blk_frozen BK311.out 9
                  have hfz51_10 := blk_frozen BK311.out 10
                  have hfz51_11 := blk_frozen BK311.out 11
                  go_wp2
                  go_ret
                  exact ⟨by first | rfl | (simp [errW_none, errW_some] <;> rfl) | (simp [*, errW_none, errW_some] <;> rfl), by repeat (first | (with_reducible first | exact HB.out | apply below_alloc | apply pw_below_drewN | apply below_drew1 | refine below_set ?_ GE311.out) | exact HB.out)⟩
                · rw [if_neg c50] at H
                  have c50b0 : (x3_2 == 1048576) = false := beq_eq_false_iff_ne.mpr c50
                  have c50b1 : (x3_2 != 1048576) = true := bne_iff_ne.mpr c50
                  obtain rfl := Option.some.inj H
                  have hcz52_0 : wr.cell? ⟨gb311, 0, none⟩ = some (.int .i64 a0_0) := (blk_cell BK311.out 0).trans rfl
                  have hcz52_1 : wr.cell? ⟨gb311, 1, none⟩ = some (.int .i64 a0_1) := (blk_cell BK311.out 1).trans rfl
                  have hcz52_2 : wr.cell? ⟨gb311, 2, none⟩ = some (.int .i64 a0_2) := (blk_cell BK311.out 2).trans rfl
                  have hcz52_3 : wr.cell? ⟨gb311, 3, none⟩ = some (.int .i64 a0_3) := (blk_cell BK311.out 3).trans rfl
                  have hcz52_4 : wr.cell? ⟨gb311, 4, none⟩ = some (.int .i64 a0_4) := (blk_cell BK311.out 4).trans rfl
                  have hcz52_5 : wr.cell? ⟨gb311, 5, none⟩ = some (.int .i64 a0_5) := (blk_cell BK311.out 5).trans rfl
                  have hcz52_6 : wr.cell? ⟨gb311, 6, none⟩ = some (.int .i64 a0_6) := (blk_cell BK311.out 6).trans rfl
                  have hcz52_7 : wr.cell? ⟨gb311, 7, none⟩ = some (.int .i64 a0_7) := (blk_cell BK311.out 7).trans rfl
                  have hcz52_8 : wr.cell? ⟨gb311, 8, none⟩ = some (.int .i64 a0_8) := (blk_cell BK311.out 8).trans rfl
                  have hcz52_9 : wr.cell? ⟨gb311, 9, none⟩ = some (.slice A0_9 l0_9.length c0_9) := (blk_cell BK311.out 9).trans rfl
                  have hcz52_10 : wr.cell? ⟨gb311, 10, none⟩ = some (.slice A0_10 l0_10.length c0_10) := (blk_cell BK311.out 10).trans rfl
                  have hcz52_11 : wr.cell? ⟨gb311, 11, none⟩ = some (.slice A0_11 l0_11.length c0_11) := (blk_cell BK311.out 11).trans rfl
                  have hfz52_0 := blk_frozen BK311.out 0
                  have hfz52_1 := blk_frozen BK311.out 1
                  have hfz52_2 := blk_frozen BK311.out 2
                  have hfz52_3 := blk_frozen BK311.out 3
                  have hfz52_4 := blk_frozen BK311.out 4
                  have hfz52_5 := blk_frozen BK311.out 5
                  have hfz52_6 := blk_frozen BK311.out 6
                  have hfz52_7 := blk_frozen BK311.out 7
                  have hfz52_8 := blk_frozen BK311.out 8
                  have hfz52_9 := blk_frozen BK311.out 9
                  have hfz52_10 := blk_frozen BK311.out 10
                  have hfz52_11 := blk_frozen BK311.out 11
                  go_wp2
                  go_ret
                  exact ⟨by first | rfl | (simp [errW_none, errW_some] <;> rfl) | (simp [*, errW_none, errW_some] <;> rfl), by repeat (first | (with_reducible first | exact HB.out | apply below_alloc | apply pw_below_drewN | apply below_drew1 | refine below_set ?_ GE311.out) | exact HB.out)⟩

end Go.Proofs.YtkjijponijmdkaaGreat.PGrowChecks
