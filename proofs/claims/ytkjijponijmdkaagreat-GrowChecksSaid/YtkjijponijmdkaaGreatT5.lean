/-
  Contract: grow.GrowBy, by what each step does.
-/
import Derived.Test.YtkjijponijmdkaaGreatT4
import Derived.Test.YtkjijponijmdkaaGreatWQPut
namespace Go.Proofs.YtkjijponijmdkaaGreat
open Go.RowKit Go.Proofs.YtkjijponijmdkaaGreatW.PrintWords

theorem growCheck_is (s : Smp) (p : SmpAt) (x : Int) (hx : growCheck s = x) (w : World) (HS : SmpRd w s p) :
    Calls Tryz.prog 12 #[.agg (smpA s p)] w fun e w' => e = .returned (.int .i64 x) ∧ Below w.heap.size w w' := by
  rw [← hx]
  exact growCheck_calls s p w HS
abbrev cfgOf (s : Smp) (p : SmpAt) (seed tree : Int) (fid b : Nat) (hv : Value) : GCfg := ⟨s, p, seed, tree, .func (.func fid) #[] #[.pointer (some ⟨b, 0, none⟩)], hv⟩
/-- What each step does. -/
def StepCalls (B : Nat) (s : Smp) (p : SmpAt) (seed tree : Int) (fid : Nat) (hv : Value) (Hv : World → Prop) (step : Nat → Nat → List Int → Nat → StepR) (Inv : Nat → List Int → Prop) : Prop :=
  ∀ (G b : Nat) (vn vw : Value) (nodes : List NodeS) (work : List PieceS) (node depth : Nat) (A : Option Addr) (c : Nat) (rows : List Int) (w : World),
    IsG w B G (cfgOf s p seed tree fid b hv) vn vw nodes work → w.heap[b]? = some (.cells (smpA s p) 30 (0, 0)) → SmpRd w s p → Hv w → (Kd.int .i64).R 3 w B (fun _ => True) (.slice A rows.length c) rows →
    B ≤ w.heap.size → node < nodes.length → nodes.length ≤ 50000000 → work.length ≤ 50000000 → Inv depth rows →
    Calls Tryz.prog 50 #[.pointer (some ⟨G, 0, none⟩), .agg #[.int .i64 node, .int .i64 depth, .slice A rows.length c]] w fun e w' =>
      e = .returned (.int .i64 (step node depth rows nodes.length).err) ∧ Below B w w' ∧ ((step node depth rows nodes.length).err = 0 → ∃ vn' vw' new,
        IsG w' B G (cfgOf s p seed tree fid b hv) vn' vw' (nodes.set node (step node depth rows nodes.length).node ++ kidsN (step node depth rows nodes.length).kids) (work ++ new) ∧
        piecesOf new = kidsW (step node depth rows nodes.length).kids nodes.length depth ∧ GFrame B G vn vw vn' vw' w w')

set_option maxHeartbeats 2000000 in
set_option maxRecDepth 100000 in
theorem growBy_err (s : Smp) (p : SmpAt) (seed tree : Int) (hv : Value) (w : World) (HS : SmpRd w s p) (he : growCheck s ≠ 0) :
    Calls Tryz.prog 27 #[.agg (smpA s p), .int .u64 seed, .int .u64 tree, hv] w fun e w' => e = .returned (.tuple #[.slice none 0 0, .int .i64 (growCheck s)]) ∧ Below w.heap.size w w' := by
  obtain ⟨x, hx⟩ : ∃ x, growCheck s = x := ⟨_, rfl⟩
  have b0 : (x != 0) = true := by rw [← hx]; simpa using he
  have C1 := Aside0.mk (fun W h => growCheck_is s p x hx W h)
  have HE := Aside0.mk hx
  have HS := Aside0.mk HS
  clear hx he
  obtain ⟨Ac, cc, At, ct, Aw, cw⟩ := p
  unfold smpA at C1 ⊢
  dsimp only at C1 ⊢
  go_enter Tryz.func27, Tryz.ntmps27
  go_wp2_with (go_at_call 12; (with_reducible refine (C1.out _ (HS.out.below (below_alloc (Below.refl _ _) _))).mono ?_); rintro e w1 ⟨rfl, hb1⟩)
  go_ret2
  exact ⟨by rw [HE.out]; rfl, below_step (below_alloc (Below.refl _ _) _) hb1⟩

theorem build_grower (x0 x1 x2 x3 x4 x5 x6 x7 x8 x9 x10 x11 : Value) (x12 x13 : Int) (f g : Fn) (a b c d : Array Value) (w : World) : (Instr.build 101 #[(0, .agg #[x0, x1, x2, x3, x4, x5, x6, x7, x8, x9, x10, x11]), (1, .int .u64 x12), (2, .int .u64 x13), (3, .func f a b), (4, .func g c d)]).run Tryz.prog w = .ok (.agg #[x0, x1, x2, x3, x4, x5, x6, x7, x8, x9, x10, x11, .int .u64 x12, .int .u64 x13, .func f a b, .func g c d, .slice none 0 0, .slice none 0 0]) w :=
  run_build _ _ _ _ (by kernel_rfl)

def mu (l : List PieceS) : Nat := (l.map fun q => 2 * q.rows.length - 1).sum
theorem kids_work {new : List PieceS} {k : Option (List Int × List Int)} {n d : Nat} {rows : List Int} (hnew : piecesOf new = kidsW k n d) (h0 : 0 < rows.length)
    (hk : ∀ l r, k = some (l, r) → 0 < l.length ∧ 0 < r.length ∧ l.length + r.length = rows.length) :
    mu new ≤ 2 * rows.length - 2 ∧ (kidsN k).length + (new.map fun q => 2 * q.rows.length - 2).sum ≤ 2 * rows.length - 2 ∧
    ∀ x ∈ new, x.node < n + (kidsN k).length ∧ 0 < x.rows.length ∧ x.depth = d + 1 ∧ ∃ l r, k = some (l, r) ∧ (x.rows = l ∨ x.rows = r) := by
  match k, hk, hnew with
  | none, _, hnew =>
    have hn : new = [] := by cases new with | nil => rfl | cons a b => simp [piecesOf, kidsW] at hnew
    subst hn
    simp [mu, kidsN]
  | some (l, r), hk, hnew =>
    obtain ⟨h1, h2, h3⟩ := hk l r rfl
    match new, hnew with
    | [], hnew => simp [piecesOf, kidsW] at hnew
    | [a], hnew => simp [piecesOf, kidsW] at hnew
    | a :: b :: c :: x, hnew => simp [piecesOf, kidsW] at hnew
    | [a, b], hnew =>
      simp only [piecesOf, kidsW, List.map_cons, List.map_nil, List.cons.injEq, Prod.mk.injEq] at hnew
      obtain ⟨⟨a1, a2, a3⟩, ⟨b1, b2, b3⟩, _⟩ := hnew
      refine ⟨by simp [mu, a3, b3]; omega, by simp [kidsN, a3, b3]; omega, ?_⟩
      intro x hx
      simp only [List.mem_cons, List.not_mem_nil, or_false] at hx
      rcases hx with rfl | rfl
      · exact ⟨by simp [kidsN]; omega, by rw [a3]; exact h1, a2, l, r, rfl, .inl a3⟩
      · exact ⟨by simp [kidsN]; omega, by rw [b3]; exact h2, b2, l, r, rfl, .inr b3⟩
theorem mu_len : ∀ (l : List PieceS), (∀ q ∈ l, 0 < q.rows.length) → l.length ≤ mu l
  | [], _ => Nat.zero_le _
  | q :: r, h => by
    have h1 := mu_len r fun x hx => h x (List.mem_cons_of_mem _ hx)
    have h2 := h q List.mem_cons_self
    simp only [mu, List.map_cons, List.sum_cons, List.length_cons] at h1 ⊢
    omega
def nu (l : List PieceS) : Nat := (l.map fun q => 2 * q.rows.length - 2).sum

set_option maxHeartbeats 4000000 in
set_option maxRecDepth 100000 in
theorem growBy_classes (s : Smp) (p : SmpAt) (seed tree : Int) (hf : Fn) (ha hc : Array Value) (w : World) (Hv : World → Prop) (step : Nat → Nat → List Int → Nat → StepR) (Inv : Nat → List Int → Prop) (HS : SmpRd w s p) (he : growCheck s = 0) (hk : s.kind = 0)
    (hHv : ∀ W, Below w.heap.size w W → Hv W) (hstep : StepCalls w.heap.size s p seed tree 66 (.func hf ha hc) Hv step Inv)
    (h0 : Inv 0 (drawn s.weights)) (hl : 0 < (drawn s.weights).length) (hlw : s.weights.length ≤ 16777216)
    (hinv : ∀ n d rows m l r, Inv d rows → (step n d rows m).err = 0 → (step n d rows m).kids = some (l, r) → Inv (d + 1) l ∧ Inv (d + 1) r ∧ 0 < l.length ∧ 0 < r.length ∧ l.length + r.length = rows.length) :
    Calls Tryz.prog 27 #[.agg (smpA s p), .int .u64 seed, .int .u64 tree, .func hf ha hc] w fun e w' => ∃ v, e = .returned (.tuple #[v, .int .i64 (runF step (2 * (drawn s.weights).length) [zN] [(0, 0, drawn s.weights)]).1]) ∧
      (kN.R 49 w' w.heap.size (fun _ => True) v (runF step (2 * (drawn s.weights).length) [zN] [(0, 0, drawn s.weights)]).2) ∧ Below w.heap.size w w' := by
  have C1 := Aside0.mk (fun W h => growCheck_is s p 0 he W h)
  have C2 := Aside0.mk (fun W => mk_classes s p W)
  have HS := Aside0.mk HS
  have HK := Aside0.mk hk
  have ck : (s.kind == 1) = false := by simp [hk]
  clear he hk
  obtain ⟨Ac, cc, At, ct, Aw, cw⟩ := p
  unfold smpA at C1 C2 ⊢
  dsimp only at C1 C2 ⊢
  go_enter Tryz.func27, Tryz.ntmps27
  go_wp2_with (go_at_call 12; (with_reducible refine (C1.out _ (HS.out.below (below_alloc (Below.refl _ _) _))).mono ?_); rintro e w1 ⟨rfl, hb1⟩; have hX1 := Aside0.mk (smp_cells hb1); have hx1 := fun j => blk_cell hX1.out j; have hB1 := Aside0.mk (below_step (below_alloc (Below.refl _ _) _) hb1); clear hb1)
  have hbg := build_grower
  have hne := blk_lt hX1.out
  go_region_held3 (fun w2 => w2.cell? ⟨w.heap.size, 0, none⟩ = some (.int .i64 s.kind) ∧ w2.cell? ⟨w.heap.size, 1, none⟩ = some (.int .i64 s.classes) ∧ w2.cell? ⟨w.heap.size, 2, none⟩ = some (.int .i64 s.bins) ∧ w2.cell? ⟨w.heap.size, 3, none⟩ = some (.int .i64 s.trees) ∧ w2.cell? ⟨w.heap.size, 4, none⟩ = some (.int .i64 s.depth) ∧ w2.cell? ⟨w.heap.size, 5, none⟩ = some (.int .i64 s.leaf) ∧ w2.cell? ⟨w.heap.size, 6, none⟩ = some (.int .i64 s.pick) ∧ w2.cell? ⟨w.heap.size, 7, none⟩ = some (.int .i64 s.rows) ∧ w2.cell? ⟨w.heap.size, 8, none⟩ = some (.int .i64 s.cols) ∧ w2.cell? ⟨w.heap.size, 9, none⟩ = some (.slice Ac s.cells.length cc) ∧ w2.cell? ⟨w.heap.size, 10, none⟩ = some (.slice At s.targets.length ct) ∧ w2.cell? ⟨w.heap.size, 11, none⟩ = some (.slice Aw s.weights.length cw)) (go_keep) (first | (go_at_call 46; (with_reducible refine (C2.out _).mono ?_); rintro e w2 ⟨rfl, rfl⟩))
  go_wp2_with fail
  have hB2 := Aside0.mk (below_alloc hB1.out (.cells (smpA s ⟨Ac, cc, At, ct, Aw, cw⟩) 30))
  obtain ⟨W2, hW2⟩ : ∃ W2, W2 = ((w1.alloc (.cells (smpA s ⟨Ac, cc, At, ct, Aw, cw⟩) 30)).alloc (.cells (growerA (cfgOf s ⟨Ac, cc, At, ct, Aw, cw⟩ seed tree 66 w1.heap.size (.func hf ha hc)) (.slice none 0 0) (.slice none 0 0)) 101)).drew := ⟨_, rfl⟩
  have hGb : W2.heap[w1.heap.size + 1]? = some (.cells (growerA (cfgOf s ⟨Ac, cc, At, ct, Aw, cw⟩ seed tree 66 w1.heap.size (.func hf ha hc)) (.slice none 0 0) (.slice none 0 0)) 101 (0, 0)) := by
    rw [hW2]
    exact blk_drew (heap_alloc2_new _ _ _)
  have hbb : W2.heap[w1.heap.size]? = some (.cells (smpA s ⟨Ac, cc, At, ct, Aw, cw⟩) 30 (0, 0)) := by
    rw [hW2]
    exact blk_drew (blk_alloc (blk_new _ _) _)
  have hBW : Below w.heap.size w W2 := by
    rw [hW2]
    exact below_drew (below_alloc hB2.out _)
  have hsz : w.heap.size ≤ w1.heap.size := hB1.out.size
  show Calls Tryz.prog 49 #[.slice Aw s.weights.length cw] ((w1.alloc (.cells (smpA s ⟨Ac, cc, At, ct, Aw, cw⟩) 30)).alloc (.cells (growerA (cfgOf s ⟨Ac, cc, At, ct, Aw, cw⟩ seed tree 66 w1.heap.size (.func hf ha hc)) (.slice none 0 0) (.slice none 0 0)) 101)).drew _
  rw [← hW2]
  clear hW2 hx1 hbg
  refine (drawn_calls s.weights Aw cw W2 (HS.out.below hBW).hw hlw).mono ?_
  rintro e w3 ⟨v3, rfl, hR3, hb3⟩
  obtain ⟨A3, c3, e3⟩ := Kd.R_slice hR3
  subst e3
  have I3 : IsG w3 w.heap.size (w1.heap.size + 1) (cfgOf s ⟨Ac, cc, At, ct, Aw, cw⟩ seed tree 66 w1.heap.size (.func hf ha hc)) (.slice none 0 0) (.slice none 0 0) [] [] :=
    ⟨blk_below hGb hb3, by omega, Kd.R_nil _ _ _ _ _, Kd.Q_nil _ _ _ _ _, by simp⟩
  have hX3 := Aside0.mk (blk_below hbb hb3)
  have hB3 := Aside0.mk (below_step hBW hb3)
  have CP := Aside0.mk (push_calls w.heap.size (w1.heap.size + 1) _ _ _ [] [] 0 A3 c3 (drawn s.weights) w3 I3 (Kd.R_lower hR3 hBW.size) (by simp) (by simp) (hB3.out.size))
  clear I3 hR3 hGb hbb hBW hb3
  go_wp2_with (go_at_call 48; refine CP.out.mono ?_; rintro e w4 ⟨rfl, vn, vw, I4, F4⟩; have I4 := Aside0.mk I4; have F4 := Aside0.mk F4)
  have hX4 : w4.heap[w1.heap.size]? = some (.cells (smpA s ⟨Ac, cc, At, ct, Aw, cw⟩) 30 (0, 0)) := (F4.out.keep _ (blk_lt hX3.out) (by omega) (by simp [Value.ownBlock]) (by simp [Value.ownBlock])).trans hX3.out
  have hB4 := hB3.out.trans F4.out.below
  obtain ⟨rows0, hrows0⟩ : ∃ r, drawn s.weights = r := ⟨_, rfl⟩
  rw [hrows0] at I4 h0 hl
  have hl0 : rows0.length ≤ 16777216 := by
    rw [← hrows0]
    exact Nat.le_trans (List.length_filter_le _ _) (by rw [upTo_length]; exact hlw)
  have hRR := Aside0.mk hrows0
  have hstep := Aside0.mk hstep
  have hinv := Aside0.mk hinv
  have hHv := Aside0.mk hHv
  have h0 := Aside0.mk h0
  clear hrows0 C1 C2 CP HK ck hX1 hB1 hB2 hX3 F4 hne
  generalize w1.heap.size = b at *
  go_loopg [8, 9, 12, 13] (2 * rows0.length - 1) (fun k _ _ _ _ wr => ∃ (f : Nat) (vn vw : Value) (nodes : List NodeS) (work : List PieceS),
    Aside0 (IsG wr w.heap.size (b + 1) (cfgOf s ⟨Ac, cc, At, ct, Aw, cw⟩ seed tree 66 b (.func hf ha hc)) vn vw nodes work) ∧ Aside0 (Below w.heap.size w wr) ∧ Aside0 (wr.heap[b]? = some (.cells (smpA s ⟨Ac, cc, At, ct, Aw, cw⟩) 30 (0, 0))) ∧
    Aside0 (runF step f nodes (piecesOf work) = runF step (2 * rows0.length) [zN] [(0, 0, rows0)]) ∧ Aside0 (k < f ∧ mu work ≤ k ∧ mu work ≤ 2 * rows0.length ∧ nodes.length + nu work ≤ 2 * rows0.length ∧ ∀ q ∈ work, q.node < nodes.length ∧ Inv q.depth q.rows ∧ 0 < q.rows.length))
  case atStart =>
    refine ⟨2 * rows0.length, vn, vw, _, _, I4, ⟨hB4⟩, ⟨hX4⟩, ⟨rfl⟩, ⟨by omega, ?_, ?_, ?_, ?_⟩⟩
    · simp [mu]
    · simp [mu]
    · simp [nu]; omega
    · intro q hq
      simp at hq
      subst hq
      exact ⟨by simp, h0.out, hl⟩
  case round =>
    obtain ⟨f, vn, vw, nodes, work, hI, hB, hX, hC, hM⟩ := hrel
    obtain ⟨hkf, hmu, hmu2, hnu, hall⟩ := hM.out
    obtain ⟨f, rfl⟩ : ∃ f', f = f' + 1 := ⟨f - 1, by omega⟩
    cases work with
    | nil =>
      obtain ⟨Aw2, cw2, ew, hcw⟩ := Kd.Q_slice hI.out.hwork
      subst ew
      obtain ⟨An, cn, en⟩ := Kd.R_slice hI.out.hnodes
      subst en
      have hg16 : wr.cell? ⟨b + 1, 16, none⟩ = some (.slice An nodes.length cn) := hI.out.cells 16
      have hg17 : wr.cell? ⟨b + 1, 17, none⟩ = some (.slice Aw2 ([] : List PieceS).length cw2) := hI.out.cells 17
      have HE := Aside0.mk (show runF step (2 * rows0.length) [zN] [(0, 0, rows0)] = (0, nodes) by rw [← hC.out]; rfl)
      clear hC hM hall hkf hmu hmu2 hnu
      go_wp2_with fail
      go_ret2
      exact ⟨_, by rw [hRR.out, HE.out]; rfl, by rw [hRR.out, HE.out]; exact hI.out.hnodes, hB.out⟩
    | cons q rest =>
      obtain ⟨gw, o, cap, ew, _, _, curw, hcur⟩ := Kd.Q_form hI.out.hwork (by simp)
      subst ew
      obtain ⟨_, hnc, hcw⟩ := Kd.Q_reads' hI.out.hwork
      obtain ⟨ad, cs, had, hcl, hK, hcells⟩ := Kd.C_get hcw ⟨0, 0, none, 0, []⟩ 0 (by decide) (by simp)
      have hcs : cs = q.cells := kP_open hK
      subst hcs
      injection had with had
      subst had
      have hq0 : wr.cell? ⟨gw, o, none⟩ = some (.int .i64 q.node) := hcells 0 _ rfl
      have hq1 : wr.cell? ⟨gw, o + 1, none⟩ = some (.int .i64 q.depth) := hcells 1 _ rfl
      have hq2 : wr.cell? ⟨gw, o + 2, none⟩ = some q.v := hcells 2 _ rfl
      have hq0 : ∀ x, (wr.alloc x).cell? ⟨gw, o, none⟩ = some (.int .i64 q.node) := fun x => (World.cell?_alloc_lt _ _ _ (World.block_lt_of_cell? _ _ hq0)).trans hq0
      have hq1 : ∀ x, (wr.alloc x).cell? ⟨gw, o + 1, none⟩ = some (.int .i64 q.depth) := fun x => (World.cell?_alloc_lt _ _ _ (World.block_lt_of_cell? _ _ hq1)).trans hq1
      have hq2 : ∀ x, (wr.alloc x).cell? ⟨gw, o + 2, none⟩ = some (.slice q.A q.rows.length q.c) := fun x => (World.cell?_alloc_lt _ _ _ (World.block_lt_of_cell? _ _ hq2)).trans hq2
      have hg17 : wr.cell? ⟨b + 1, 17, none⟩ = some (.slice (some ⟨gw, o, none⟩) (rest.length + 1) cap) := hI.out.cells 17
      have ha17 : ∀ x, (wr.alloc x).cell? ⟨b + 1, 17, none⟩ = some (.slice (some ⟨gw, o, none⟩) (rest.length + 1) cap) := fun x => (World.cell?_alloc_lt _ _ _ (World.block_lt_of_cell? _ _ hg17)).trans hg17
      have hf17 : ∀ x, (wr.alloc x).frozen? ⟨b + 1, 17, none⟩ = false := fun x => blk_frozen (blk_alloc hI.out.hblk x) 17
      obtain ⟨A', hA'⟩ : ∃ A', A' = (if cap = 1 then some ⟨gw, o, none⟩ else (some (⟨gw, o, none⟩ : Addr)).map (·.add (1 * 3))) := ⟨_, rfl⟩
      have hcut : ∀ W : World, (Instr.slice 99 (.slice (some ⟨gw, o, none⟩) (rest.length + 1) cap) (some (.int .i64 1)) none none).run Tryz.prog W = .ok (.slice A' rest.length (cap - 1)) W := by
        intro W
        rw [hA']
        exact cut_from 99 105 .i64 (i := _) Tryz.underlying99 rfl 3 rfl _ _ _ 1 (by decide) (by omega) W
      have hQd : kP.Q 105 wr w.heap.size (fun _ => True) (.slice A' rest.length (cap - 1)) rest := by
        rw [hA']
        exact Kd.Q_drop (k := 1) hI.out.hwork (by simp)
      have hIa := hI.out.alloc (.cells #[.int .i64 q.node, .int .i64 q.depth, .slice q.A q.rows.length q.c] 105)
      have hI2 := Aside0.mk (hIa.after_work (v1 := .slice A' rest.length (cap - 1)) (Kd.Q_below hQd (below_alloc (Below.refl _ _) _)) ⟨rfl, rfl, rfl, Nat.le_refl _, fun _ _ _ => rfl⟩ (fun q' hq' => hIa.hrows q' (List.mem_cons_of_mem _ hq')))
      have hRq := Aside0.mk (Kd.R_set (hIa.hrows q List.mem_cons_self) hIa.hblk (by decide) 17 (.slice A' rest.length (cap - 1)))
      have hX2 : ((wr.alloc (.cells #[.int .i64 q.node, .int .i64 q.depth, .slice q.A q.rows.length q.c] 105)).setCell ⟨b + 1, 17, none⟩ (.slice A' rest.length (cap - 1))).heap[b]? = some (.cells (smpA s ⟨Ac, cc, At, ct, Aw, cw⟩) 30 (0, 0)) :=
        (Below.heap_setCell _ ⟨b + 1, 17, none⟩ _ b (by simp)).trans (blk_alloc hX.out _)
      have hB2 : Below w.heap.size w ((wr.alloc (.cells #[.int .i64 q.node, .int .i64 q.depth, .slice q.A q.rows.length q.c] 105)).setCell ⟨b + 1, 17, none⟩ (.slice A' rest.length (cap - 1))) := (below_alloc hB.out _).setCell (p := ⟨b + 1, 17, none⟩) (by have := hI.out.hge; exact this) _
      obtain ⟨r, hr⟩ : ∃ r, step q.node q.depth q.rows nodes.length = r := ⟨_, rfl⟩
      have hlen := mu_len _ fun x hx => (hall x hx).2.2
      rw [List.length_cons] at hlen
      have hall0 := hall q List.mem_cons_self
      have CG := hstep.out (b + 1) b vn _ nodes rest q.node q.depth q.A q.c q.rows _ hI2.out hX2 (HS.out.below hB2) (hHv.out _ hB2) hRq.out (hB2.size) hall0.1 (by omega) (by omega) hall0.2.1
      rw [hr] at CG
      have CG := Aside0.mk CG
      clear hA' hcells hK hcl hcw hQd
      by_cases hre : r.err = 0
      · obtain ⟨x, hx⟩ : ∃ x, r.err = x := ⟨_, rfl⟩
        have b1 : (x != 0) = false := by rw [← hx]; simp [hre]
        have CG : Calls Tryz.prog 50 _ _ _ := CG.out
        rw [hx] at CG
        have CG := Aside0.mk CG
        go_wp2_with (go_at_call 50; (with_reducible refine CG.out.mono ?_); rintro e w5 ⟨rfl, hb5, h5⟩; obtain ⟨vn5, vw5, new, I5, hnew, F5⟩ := h5 (by rw [← hx]; exact hre); have hb5 := Aside0.mk hb5; have hnew := Aside0.mk hnew; have I5 := Aside0.mk I5; have F5 := Aside0.mk F5; clear h5)
        go_roundg (gk - 1)
        case measure => exact Nat.sub_lt (by simp only [mu, List.map_cons, List.sum_cons] at hmu; omega) (by decide)
        have hkw := kids_work hnew.out hall0.2.2 (fun l r' e => (hinv.out q.node q.depth q.rows nodes.length l r' hall0.2.1 (by rw [hr]; exact hre) (by rw [hr]; exact e)).2.2)
        obtain ⟨k1, k2, k3⟩ := hkw
        have hap : ∀ l1 l2, mu (l1 ++ l2) = mu l1 + mu l2 := fun l1 l2 => by simp [mu]
        have hap2 : ∀ l1 l2, nu (l1 ++ l2) = nu l1 + nu l2 := fun l1 l2 => by simp [nu]
        have hmq : mu (q :: rest) = 2 * q.rows.length - 1 + mu rest := by simp [mu]
        have hnq : nu (q :: rest) = 2 * q.rows.length - 2 + nu rest := by simp [nu]
        have hnn : nu new = (new.map fun q => 2 * q.rows.length - 2).sum := rfl
        refine ⟨f, vn5, vw5, _, rest ++ new, I5, ⟨hB2.trans hb5.out⟩, ⟨?_⟩, ⟨?_⟩, ⟨by omega, ?_, ?_, ?_, ?_⟩⟩
        · refine (F5.out.keep b (blk_lt hX2) (by omega) (fun e => ?_) (fun e => ?_)).trans hX2
          · obtain ⟨cl, hc⟩ := Kd.R_typed hI2.out.hnodes b e.symm
            rw [hX2] at hc
            simp at hc
          · obtain ⟨cl, hc⟩ := Kd.Q_typed hI2.out.hwork b e.symm
            rw [hX2] at hc
            simp at hc
        · rw [← hC.out]
          simp only [piecesOf, List.map_append, List.map_cons, runF]
          rw [hr, if_neg (by simpa using hre)]
          rw [← hnew.out]
          rfl
        · rw [hap]; omega
        · rw [hap]; omega
        · rw [hap2, List.length_append, List.length_set]; omega
        · intro x hx
          rw [List.length_append, List.length_set]
          rcases List.mem_append.1 hx with hx | hx
          · obtain ⟨y1, y2, y3⟩ := hall x (List.mem_cons_of_mem _ hx)
            exact ⟨by omega, y2, y3⟩
          · obtain ⟨y1, y2, y3, l, r', y4, y5⟩ := k3 x hx
            have hi := hinv.out q.node q.depth q.rows nodes.length l r' hall0.2.1 (by rw [hr]; exact hre) (by rw [hr]; exact y4)
            refine ⟨y1, ?_, y2⟩
            rw [y3]
            rcases y5 with y5 | y5 <;> rw [y5]
            · exact hi.1
            · exact hi.2.1
      · obtain ⟨x, hx⟩ : ∃ x, r.err = x := ⟨_, rfl⟩
        have b1 : (x != 0) = true := by rw [← hx]; simp [hre]
        have CG : Calls Tryz.prog 50 _ _ _ := CG.out
        rw [hx] at CG
        have CG := Aside0.mk CG
        go_wp2_with (go_at_call 50; (with_reducible refine CG.out.mono ?_); rintro e w5 ⟨rfl, hb5, -⟩; have hb5 := Aside0.mk hb5)
        go_ret2
        have HE := Aside0.mk (show runF step (2 * rows0.length) [zN] [(0, 0, rows0)] = (x, []) by
          rw [← hC.out]
          simp only [piecesOf, List.map_cons, runF]
          rw [hr, if_pos (by simpa using hre), hx])
        exact ⟨_, by rw [hRR.out, HE.out]; rfl, by rw [hRR.out, HE.out]; exact Kd.R_nil _ _ _ _ _, hB2.trans hb5.out⟩
end Go.Proofs.YtkjijponijmdkaaGreat
