/-
  Contract: what rows with classes come to (grow.classes and its function).
-/
import Derived.Test.YtkjijponijmdkaaGreatP3
import Derived.Test.YtkjijponijmdkaaGreatG2
import Derived.Test.YtkjijponijmdkaaGreatK6
import Derived.BigRegion
namespace Go.Proofs.YtkjijponijmdkaaGreat
open Go.RowKit Go.Proofs.YtkjijponijmdkaaGreatW.PrintWords

theorem info_int64 : (Tryz.prog.info? 2).map (fun i => (i.zero, i.size, i.bytes)) = some (some (.int .i64 0), 1, 8) := by kernel_rfl

/-- The weights of rows. -/
def wsum (s : Smp) (rows : List Int) : Int := (rows.map fun i => rd s.weights i).sum
/-- A row more is counted. -/
def cadd (s : Smp) (cs : List Int) (i : Int) : List Int := cs.set (rd s.targets i).toNat (rd cs (rd s.targets i) + rd s.weights i)
def countsF (s : Smp) (rows : List Int) : List Int := rows.foldl (cadd s) (List.replicate s.classes.toNat 0)
theorem countsF_snoc (s : Smp) (l : List Int) (x : Int) : countsF s (l ++ [x]) = cadd s (countsF s l) x := by simp [countsF]
theorem foldl_cadd_length (s : Smp) (l : List Int) : ∀ cs, (l.foldl (cadd s) cs).length = cs.length := by
  induction l with
  | nil => intro cs; rfl
  | cons x r ih => intro cs; rw [List.foldl_cons, ih]; simp [cadd]
theorem countsF_length (s : Smp) (l : List Int) : (countsF s l).length = s.classes.toNat := by simp [countsF, foldl_cadd_length]
theorem wsum_snoc (s : Smp) (l : List Int) (x : Int) : wsum s (l ++ [x]) = wsum s l + rd s.weights x := by simp [wsum]
/-- Rows that can be grown of. -/
structure RowsOk (s : Smp) (rows : List Int) : Prop where
  len : rows.length ≤ 16777216
  mem : ∀ i ∈ rows, 0 ≤ i ∧ i < s.rows
  wpos : ∀ i, 0 ≤ i → i < s.rows → 0 ≤ rd s.weights i
  sum : wsum s rows ≤ 1048576
theorem wsum_nonneg {s : Smp} {rows : List Int} (h : ∀ i ∈ rows, 0 ≤ rd s.weights i) : 0 ≤ wsum s rows := by
  unfold wsum
  induction rows with
  | nil => simp
  | cons x r ih =>
    have h1 := h x (by simp)
    have h2 := ih (fun i hi => h i (by simp [hi]))
    simp only [List.map_cons, List.sum_cons]
    omega
theorem wsum_append (s : Smp) (a b : List Int) : wsum s (a ++ b) = wsum s a + wsum s b := by simp [wsum]
theorem RowsOk.w {s : Smp} {rows : List Int} (h : RowsOk s rows) : ∀ i ∈ rows, 0 ≤ rd s.weights i := fun i hi => h.wpos i (h.mem i hi).1 (h.mem i hi).2
theorem RowsOk.take {s : Smp} {rows : List Int} (h : RowsOk s rows) (k : Nat) : 0 ≤ wsum s (rows.take k) ∧ wsum s (rows.take k) ≤ 1048576 := by
  have h1 : 0 ≤ wsum s (rows.take k) := wsum_nonneg (fun i hi => h.w i (List.mem_of_mem_take hi))
  have h2 : 0 ≤ wsum s (rows.drop k) := wsum_nonneg (fun i hi => h.w i (List.mem_of_mem_drop hi))
  have h3 : wsum s rows = wsum s (rows.take k) + wsum s (rows.drop k) := by rw [← wsum_append, List.take_append_drop]
  have := h.sum
  omega
theorem rd_set {l : List Int} {a : Nat} {v : Int} (j : Int) : rd (l.set a v) j = if a = j.toNat ∧ j.toNat < l.length then v else rd l j := by
  unfold rd
  simp only [List.getD_eq_getElem?_getD, List.getElem?_set]
  by_cases h : a = j.toNat
  · subst h
    by_cases h2 : j.toNat < l.length
    · simp [h2]
    · simp [h2]
  · simp [h]
theorem rd_replicate (n : Nat) (j : Int) : rd (List.replicate n 0) j = 0 := by
  unfold rd
  simp only [List.getD_eq_getElem?_getD, List.getElem?_replicate]
  split <;> rfl
theorem snoc_ind {α : Type} {P : List α → Prop} (h0 : P []) (h1 : ∀ l x, P l → P (l ++ [x])) (l : List α) : P l := by
  have h : ∀ r : List α, P r.reverse := by
    intro r
    induction r with
    | nil => exact h0
    | cons x r ih => rw [List.reverse_cons]; exact h1 _ _ ih
  have := h l.reverse
  rwa [List.reverse_reverse] at this
theorem countsF_bd {s : Smp} {rows : List Int} (h : ∀ i ∈ rows, 0 ≤ rd s.weights i) : ∀ j, 0 ≤ rd (countsF s rows) j ∧ rd (countsF s rows) j ≤ wsum s rows := by
  revert h
  refine snoc_ind (P := fun rows => (∀ i ∈ rows, 0 ≤ rd s.weights i) → ∀ j, 0 ≤ rd (countsF s rows) j ∧ rd (countsF s rows) j ≤ wsum s rows) ?_ ?_ rows
  · intro _ j
    simp [countsF, rd_replicate, wsum]
  · intro l x ih h j
    have h1 := ih (fun i hi => h i (by simp [hi]))
    have hx := h x (by simp)
    rw [countsF_snoc, wsum_snoc]
    unfold cadd
    rw [rd_set]
    have a := h1 j
    have b := h1 (rd s.targets x)
    split <;> omega

theorem blk_ne_R {α : Type} {d : Kd α} {w : World} {e base g n c : Nat} {ok : Nat → Prop} {xs : List α} (h : d.R e w base ok (.slice (some ⟨g, 0, none⟩) n c) xs) {T t : Nat} {cells : Array Value} (hb : w.heap[T]? = some (.cells cells t (0, 0))) (ht : e ≠ t) : T ≠ g := fun hh =>
  Kd.R_ne h hb ht (by rw [hh]; rfl)
abbrev nodeA (feature bin left cls sum count : Int) : Array Value := #[.int .i64 feature, .int .i64 bin, .int .i64 left, .int .i64 cls, .int .i64 sum, .int .i64 count]
abbrev toldA (size : Int) (pure : Bool) (cls sum count : Int) : Array Value := #[.int .i64 size, .bool pure, .int .i64 (-1), .int .i64 0, .int .i64 0, .int .i64 cls, .int .i64 sum, .int .i64 count]

set_option maxHeartbeats 2000000 in
set_option maxRecDepth 100000 in
theorem classes1_calls (s : Smp) (p : SmpAt) (b : Nat) (rows : List Int) (A : Option Addr) (c : Nat) (w : World) (HS : SmpRd w s p) (hok : SmpOk s) (hrow : RowsOk s rows)
    (htg : ∀ i, 0 ≤ i → i < s.rows → 0 ≤ rd s.targets i ∧ rd s.targets i < s.classes) (hcl : 2 ≤ s.classes ∧ s.classes ≤ 256)
    (hb : w.heap[b]? = some (.cells (smpA s p) 30 (0, 0))) (hr : (Kd.int .i64).C w A rows.length rows) :
    Calls Tryz.prog 66 #[.slice A rows.length c, .pointer (some ⟨b, 0, none⟩)] w fun e w' =>
      e = .returned (.agg (toldA (wsum s rows) (gPure (countsF s rows)) (gMajor (countsF s rows)) 0 0)) ∧ Below w.heap.size w w' := by
  have HS := Aside0.mk HS
  have HR0 := Aside0.mk hr
  have hl := hrow.len
  have hx0 := fun o j => blk_cell (blk_alloc hb o) j
  have HBx := Aside0.mk hb
  have HOK := Aside0.mk hok
  have HRW := Aside0.mk hrow
  have HTG := Aside0.mk htg
  clear hr hb hok hrow htg
  obtain ⟨Ac, cc, At, ct, Aw, cw⟩ := p
  unfold smpA at HBx hx0
  dsimp only at HBx hx0
  go_enter Tryz.func66, Tryz.ntmps66
  go_wp2_with (at_make; refine Kd.R_make (Kd.int .i64) (w0 := w) w.heap.size 2 rfl rfl 27 (.tmp 10) (.tmp 10) rfl s.classes rfl rfl Tryz.underlying27 (.int .i64 0) 8 info_int64 rfl (by decide) (by decide) 0 (ok := fun _ => True) (okp := fun _ => True) rfl (fun _ _ => trivial) trivial (by omega) (by omega) (below_alloc (Below.refl _ _) _) (by simp) ?_; intro v1 w1 hR hB hg hat; rw [show List.replicate (s.classes.toNat) (0 : Int) = countsF s [] from rfl] at hR; obtain ⟨A1, c1, e1⟩ := Kd.R_slice hR; rw [countsF_length] at e1; subst e1; have HR := Aside0.mk hR; have HX1 := Aside0.mk (blk_below HBx.out hB); have HZ := Aside0.mk (blk_grown (blk_new w (.cells #[.int .i64 0, .bool false, .int .i64 0, .int .i64 0, .int .i64 0, .int .i64 0, .int .i64 0, .int .i64 0] 127)) hg (by simp)); have HZlt := Aside0.mk (blk_lt HZ.out); have HB := Aside0.mk hB; clear hR hB hg hat hx0)
  go_loopw [7, 14] (fun _ v wr => ∃ k : Nat, k ≤ rows.length ∧ v = .int .i64 k ∧ Below w.heap.size w wr ∧ (Kd.int .i64).R 2 wr w.heap.size (fun _ => True) (.slice A1 s.classes.toNat c1) (countsF s (rows.take k)) ∧
      wr.heap[w1.heap.size]? = some (.cells #[.int .i64 (wsum s (rows.take k)), .bool false, .int .i64 0, .int .i64 0, .int .i64 0, .int .i64 0, .int .i64 0, .int .i64 0] 127 (0, 0)) ∧
      wr.heap[w.heap.size]? = some (.cells #[.int .i64 0, .bool false, .int .i64 0, .int .i64 0, .int .i64 0, .int .i64 0, .int .i64 0, .int .i64 0] 127 (0, 0)))
    (fun _ v _ => rows.length - (intOf v).toNat)
  case atStart => exact ⟨0, by omega, rfl, below_alloc HB.out _, Kd.R_alloc HR.out _, blk_new _ _, blk_alloc HZ.out _⟩
  case round =>
    obtain ⟨k, hk, rfl, hB, hR, hT, hZ⟩ := hrel
    by_cases hlt : k < rows.length
    · obtain ⟨x, hx⟩ : ∃ x, rd rows k = x := ⟨_, rfl⟩
      have hxm : x ∈ rows := hx ▸ rd_mem hlt
      obtain ⟨x0, x1⟩ := HRW.out.mem x hxm
      obtain ⟨t, ht⟩ : ∃ t, rd s.targets x = t := ⟨_, rfl⟩
      obtain ⟨y, hy⟩ : ∃ y, rd s.weights x = y := ⟨_, rfl⟩
      obtain ⟨t0, t1⟩ := ht ▸ HTG.out x x0 x1
      have y0 := hy ▸ HRW.out.wpos x x0 x1
      have xt : x < s.targets.length := by have := HOK.out.targets; omega
      have xw : x < s.weights.length := by have := HOK.out.weights; omega
      have hsn : wsum s (rows.take (k + 1)) = wsum s (rows.take k) + y := by rw [take_rd hlt, wsum_snoc, hx, hy]
      have hcn : countsF s (rows.take (k + 1)) = (countsF s (rows.take k)).set t.toNat (rd (countsF s (rows.take k)) t + y) := by rw [take_rd hlt, countsF_snoc, hx]; unfold cadd; rw [ht, hy]
      have hq := HRW.out.take k
      have hq1 := HRW.out.take (k + 1)
      have hcb := countsF_bd (s := s) (rows := rows.take k) (fun i hi => HRW.out.w i (List.mem_of_mem_take hi)) t
      obtain ⟨ad, ea, hcx⟩ := Kd.at_int HR0.out k (by omega) (by omega)
      obtain ⟨ae, ee, hct⟩ := Kd.at_int HS.out.ht x x0 xt
      obtain ⟨aw, ew, hcw⟩ := Kd.at_int HS.out.hw x x0 xw
      dsimp only at ee ew
      subst ea ee ew
      have hcx : wr.cell? (ad.add k) = some (.int .i64 x) := hx ▸ pw_cell_belowB hB hcx
      have hct : wr.cell? (ae.add x.toNat) = some (.int .i64 t) := ht ▸ pw_cell_belowB hB hct
      have hcw0 := hcw
      have hcw : wr.cell? (aw.add x.toNat) = some (.int .i64 y) := hy ▸ pw_cell_belowB hB hcw
      have hbx := fun j => blk_cell (blk_below HBx.out hB) j
      obtain ⟨g, ea, hg, hgl⟩ := form_n hR (by rw [countsF_length]; omega)
      subst ea
      obtain ⟨hcc, hcf⟩ := cell_n hR t.toNat (by omega)
      obtain ⟨z, hz⟩ : ∃ z, rd (countsF s (rows.take k)) t = z := ⟨_, rfl⟩
      obtain ⟨q, hqq⟩ : ∃ q, wsum s (rows.take k) = q := ⟨_, rfl⟩
      rw [show ((t.toNat : Nat) : Int) = t by omega, hz] at hcc
      rw [hz] at hcb hcn
      rw [hsn] at hq1
      rw [hqq] at hq hq1 hsn hT hcb
      have hne : w1.heap.size ≠ g := blk_ne_R hR hT (by decide)
      have hne0 : w.heap.size ≠ g := blk_ne_R hR hZ (by decide)
      have hPn := (put_n hR (countsF_length _ _) t.toNat (z + y)).1
      rw [← hcn] at hPn
      have hT6 := fun v => blk_far hT (p := ⟨g, t.toNat, none⟩) hne v
      have hB6 := fun v => below_set (g := g) (j := t.toNat) (v := v) hB hg
      have hS1 := fun v => blk_cell (hT6 v) 0
      have hS2 : ∀ v, (wr.setCell ⟨g, t.toNat, none⟩ v).cell? (aw.add x.toNat) = some (.int .i64 y) := fun v => hy ▸ pw_cell_belowB (hB6 v) (hcw0)
      have hS3 := fun v j => blk_cell (blk_below HBx.out (hB6 v)) j
      have hS4 := fun v => blk_frozen (hT6 v) 0
      have hS5 := fun v v2 => blk_set (hT6 v) 0 v2
      have HZ6 := Aside0.mk (fun v => blk_far hZ (p := ⟨g, t.toNat, none⟩) hne0 v)
      have HT6 := Aside0.mk hT6
      have HB6 := Aside0.mk hB6
      have HS5 := Aside0.mk hS5
      have HPn := Aside0.mk hPn
      have HNE := Aside0.mk (show w.heap.size ≠ w1.heap.size by have := HZlt.out; omega)
      have HSN := Aside0.mk hsn
      have lt1 : (x : Int) < (s.targets.length : Int) := xt
      have lw1 : (x : Int) < (s.weights.length : Int) := xw
      have lt2 : t < (s.classes.toNat : Int) := by omega
      clear hT6 hB6 hS5 hPn hsn hcn hB hR hT hZ hx ht hy hz hqq hcw0
      go_wp2_with fail
      go_region
      go_wp2_with fail
      go_region
      go_wp2_with fail
      go_roundw
      case rel => exact ⟨k + 1, by omega, by go_num, below_drew (below_drew (below_set (HB6.out _) HB.out.size)), Kd.R_drew (Kd.R_drew (Kd.R_set HPn.out (HT6.out _) (by decide) 0 _)), by rw [HSN.out]; exact blk_drew (blk_drew (HS5.out _ _)), blk_drew (blk_drew (blk_far (HZ6.out _) (p := ⟨w1.heap.size, 0, none⟩) HNE.out _))⟩
      case measure => simp [intOf]; omega
    · obtain rfl : k = rows.length := by omega
      rw [List.take_length] at hR hT
      obtain ⟨hq0, hcap, hC⟩ := Kd.R_reads' hR
      obtain ⟨cs, hcs⟩ : ∃ cs, countsF s rows = cs := ⟨_, rfl⟩
      obtain ⟨q, hqq⟩ : ∃ q, wsum s rows = q := ⟨_, rfl⟩
      have hcl2 := countsF_length s rows
      have CP := gPure_calls (countsF s rows) A1 c1 wr hC
      have CM : ∀ v, Calls Tryz.prog 68 #[.slice A1 s.classes.toNat c1] (wr.setCell ⟨w1.heap.size, 1, none⟩ v) fun e w' => e = .returned (.int .i64 (gMajor (countsF s rows))) ∧ wr.setCell ⟨w1.heap.size, 1, none⟩ v = w' := by
        intro v
        have := gMajor_calls (countsF s rows) A1 c1 _ (Kd.R_reads' (Kd.R_set hR hT (by decide) 1 v)).2.2
        rwa [hcl2] at this
      rw [hcl2, hcs] at CP
      simp only [hcs] at CM
      rw [hqq] at hT
      obtain ⟨pu, hpu⟩ : ∃ pu, gPure cs = pu := ⟨_, rfl⟩
      obtain ⟨mj, hmj⟩ : ∃ mj, gMajor cs = mj := ⟨_, rfl⟩
      rw [hpu] at CP
      simp only [hmj] at CM
      have hxT := fun j => blk_cell hT j
      have hfT := fun j => blk_frozen hT j
      have hxZ := fun j => blk_cell hZ j
      have hfZ := fun j => blk_frozen hZ j
      have hne1 : w.heap.size ≠ w1.heap.size := by have := HZlt.out; omega
      have HE := Aside0.mk (show toldA (wsum s rows) (gPure (countsF s rows)) (gMajor (countsF s rows)) 0 0 = toldA q pu mj 0 0 by rw [hcs, hqq, hpu, hmj])
      have CP := Aside0.mk CP
      have CM := Aside0.mk CM
      have HB2 := Aside0.mk hB
      have HT := Aside0.mk hT
      have HZ2 := Aside0.mk hZ
      clear hB hR hT hZ hC hcs hqq hpu hmj hcl2 hq0 hcap
      go_wp2_with (first | (go_at_call 67; (with_reducible refine CP.out.mono ?_); rintro e w2 ⟨rfl, rfl⟩) | (go_at_call 68; (with_reducible refine (CM.out _).mono ?_); rintro e w2 ⟨rfl, rfl⟩))
      refine bodyPost_ret (v := .agg (toldA q pu mj 0 0)) (by simp [results, Tryz.results66, go_sem, hxZ]) rfl ⟨by rw [HE.out], ?_⟩
      iterate 8 refine below_set ?_ (Nat.le_refl _)
      iterate 7 refine below_set ?_ HB.out.size
      exact HB2.out
end Go.Proofs.YtkjijponijmdkaaGreat
