/-
  Contract: (*grower).push.
-/
import Derived.Test.YtkjijponijmdkaaGreatT1
namespace Go.Proofs.YtkjijponijmdkaaGreat
open Go.RowKit Go.Proofs.YtkjijponijmdkaaGreatW.PrintWords

/-- What a grower is made of, but for its nodes and its work. -/
structure GCfg where
  s : Smp
  p : SmpAt
  seed : Int
  tree : Int
  tell : Value
  hists : Value
abbrev growerA (g : GCfg) (vn vw : Value) : Array Value := #[.int .i64 g.s.kind, .int .i64 g.s.classes, .int .i64 g.s.bins, .int .i64 g.s.trees, .int .i64 g.s.depth, .int .i64 g.s.leaf, .int .i64 g.s.pick,
  .int .i64 g.s.rows, .int .i64 g.s.cols, .slice g.p.Ac g.s.cells.length g.p.cc, .slice g.p.At g.s.targets.length g.p.ct, .slice g.p.Aw g.s.weights.length g.p.cw, .int .u64 g.seed, .int .u64 g.tree, g.tell, g.hists, vn, vw]
/-- The grower at block G: its nodes, its work; all of it in blocks from B on. -/
structure IsG (w : World) (B G : Nat) (g : GCfg) (vn vw : Value) (nodes : List NodeS) (work : List PieceS) : Prop where
  hblk : w.heap[G]? = some (.cells (growerA g vn vw) 101 (0, 0))
  hge : B ≤ G
  hnodes : kN.R 49 w B (fun _ => True) vn nodes
  hwork : kP.Q 105 w B (fun _ => True) vw work
  hrows : ∀ q ∈ work, (Kd.int .i64).R 3 w B (fun _ => True) q.v q.rows
/-- Below B all is as it was; what is neither the grower nor its rows stays; its rows are where they were, or new. -/
structure GFrame (B G : Nat) (vn vw vn' vw' : Value) (w w' : World) : Prop where
  below : Below B w w'
  size : w.heap.size ≤ w'.heap.size
  keep : ∀ k, k < w.heap.size → k ≠ G → some k ≠ vn.ownBlock → some k ≠ vw.ownBlock → w'.heap[k]? = w.heap[k]?
  atn : vn'.ownBlock = vn.ownBlock ∨ ∃ b, vn'.ownBlock = some b ∧ w.heap.size ≤ b
  atw : vw'.ownBlock = vw.ownBlock ∨ ∃ b, vw'.ownBlock = some b ∧ w.heap.size ≤ b
theorem GFrame.refl (B G : Nat) (vn vw : Value) (w : World) : GFrame B G vn vw vn vw w w := ⟨Below.refl _ _, Nat.le_refl _, fun _ _ _ _ _ => rfl, .inl rfl, .inl rfl⟩
theorem at_trans {v v1 v2 : Value} {n n1 : Nat} (h : v1.ownBlock = v.ownBlock ∨ ∃ b, v1.ownBlock = some b ∧ n ≤ b) (k : v2.ownBlock = v1.ownBlock ∨ ∃ b, v2.ownBlock = some b ∧ n1 ≤ b) (hn : n ≤ n1) : v2.ownBlock = v.ownBlock ∨ ∃ b, v2.ownBlock = some b ∧ n ≤ b := by
  rcases k with k | ⟨b, k, hb⟩
  · rw [k]; exact h
  · exact .inr ⟨b, k, by omega⟩
theorem at_ne {v v1 : Value} {n k : Nat} (h : v1.ownBlock = v.ownBlock ∨ ∃ b, v1.ownBlock = some b ∧ n ≤ b) (hk : k < n) (hne : some k ≠ v.ownBlock) : some k ≠ v1.ownBlock := by
  rcases h with h | ⟨b, h, hb⟩
  · rw [h]; exact hne
  · rw [h]
    intro e
    injection e with e
    omega
theorem GFrame.trans {B G : Nat} {vn vw vn1 vw1 vn2 vw2 : Value} {w w1 w2 : World} (h : GFrame B G vn vw vn1 vw1 w w1) (k : GFrame B G vn1 vw1 vn2 vw2 w1 w2) : GFrame B G vn vw vn2 vw2 w w2 :=
  ⟨h.below.trans k.below, Nat.le_trans h.size k.size, fun i hi h1 h2 h3 => (k.keep i (Nat.lt_of_lt_of_le hi h.size) h1 (at_ne h.atn hi h2) (at_ne h.atw hi h3)).trans (h.keep i hi h1 h2 h3), at_trans h.atn k.atn h.size, at_trans h.atw k.atw h.size⟩
theorem GFrame.of_below {B G : Nat} (vn vw : Value) {w w1 : World} (h : Below w.heap.size w w1) (hB : B ≤ w.heap.size) : GFrame B G vn vw vn vw w w1 :=
  ⟨⟨h.os, h.tape, h.output, h.size, fun i hi => h.block i (Nat.lt_of_lt_of_le hi hB)⟩, h.size, fun k hk _ _ _ => h.block k hk, .inl rfl, .inl rfl⟩

theorem IsG.cells {w : World} {B G : Nat} {g : GCfg} {vn vw : Value} {nodes : List NodeS} {work : List PieceS} (h : IsG w B G g vn vw nodes work) (j : Nat) : w.cell? ⟨G, j, none⟩ = (growerA g vn vw)[j]? := blk_cell h.hblk j

theorem IsG.after_work {w w1 : World} {B G : Nat} {g : GCfg} {vn vw v1 : Value} {nodes : List NodeS} {work work' : List PieceS} (h : IsG w B G g vn vw nodes work) (ho : kP.Q 105 w1 B (fun _ => True) v1 work')
    (hg : w.grownBy w1 vw.ownBlock) (hr : ∀ q ∈ work', (Kd.int .i64).R 3 w B (fun _ => True) q.v q.rows) : IsG (w1.setCell ⟨G, 17, none⟩ v1) B G g vn v1 nodes work' := by
  have hb1 := blk_grown h.hblk hg (Kd.Q_ne h.hwork h.hblk (by decide))
  refine ⟨?_, h.hge, Kd.R_set (Kd.R_over' h.hnodes (Kd.Q_typed h.hwork) (by decide) hg) hb1 (by decide) 17 v1, Kd.Q_set ho hb1 (by decide) 17 v1, fun q hq => Kd.R_set (Kd.R_over' (hr q hq) (Kd.Q_typed h.hwork) (by decide) hg) hb1 (by decide) 17 v1⟩
  exact blk_set hb1 17 v1
theorem IsG.after_nodes {w w1 : World} {B G : Nat} {g : GCfg} {vn vw v1 : Value} {nodes nodes' : List NodeS} {work : List PieceS} (h : IsG w B G g vn vw nodes work) (ho : kN.R 49 w1 B (fun _ => True) v1 nodes')
    (hg : w.grownBy w1 vn.ownBlock) : IsG (w1.setCell ⟨G, 16, none⟩ v1) B G g v1 vw nodes' work := by
  have hb1 := blk_grown h.hblk hg (Kd.R_ne h.hnodes h.hblk (by decide))
  refine ⟨?_, h.hge, Kd.R_set ho hb1 (by decide) 16 v1, Kd.Q_set (Kd.Q_over' h.hwork (Kd.R_typed h.hnodes) (by decide) hg) hb1 (by decide) 16 v1, fun q hq => Kd.R_set (Kd.R_over' (h.hrows q hq) (Kd.R_typed h.hnodes) (by decide) hg) hb1 (by decide) 16 v1⟩
  exact blk_set hb1 16 v1
theorem gframe_work {w w1 : World} {B G : Nat} {vn vw v1 : Value} (hb : Below B w w1) (hg : w.grownBy w1 vw.ownBlock) (hat : v1.ownBlock = vw.ownBlock ∨ ∃ b, v1.ownBlock = some b ∧ w.heap.size ≤ b) (hB : B ≤ G) :
    GFrame B G vn vw vn v1 w (w1.setCell ⟨G, 17, none⟩ v1) :=
  ⟨hb.setCell (p := ⟨G, 17, none⟩) hB v1, by have := hg.size; simpa using this, fun k hk h1 _ h3 => (Below.heap_setCell w1 ⟨G, 17, none⟩ v1 k h1).trans (hg.block k hk h3), .inl rfl, hat⟩
theorem gframe_nodes {w w1 : World} {B G : Nat} {vn vw v1 : Value} (hb : Below B w w1) (hg : w.grownBy w1 vn.ownBlock) (hat : v1.ownBlock = vn.ownBlock ∨ ∃ b, v1.ownBlock = some b ∧ w.heap.size ≤ b) (hB : B ≤ G) :
    GFrame B G vn vw v1 vw w (w1.setCell ⟨G, 16, none⟩ v1) :=
  ⟨hb.setCell (p := ⟨G, 16, none⟩) hB v1, by have := hg.size; simpa using this, fun k hk h1 h2 _ => (Below.heap_setCell w1 ⟨G, 16, none⟩ v1 k h1).trans (hg.block k hk h2), hat, .inl rfl⟩
theorem grown_drew {w w1 : World} {row : Option Nat} (h : w.drew.grownBy w1 row) : w.grownBy w1 row := ⟨h.os, h.tape, h.output, h.size, h.block⟩
theorem GFrame.drew {B G : Nat} {vn vw vn1 vw1 : Value} {w w1 : World} (h : GFrame B G vn vw vn1 vw1 w w1) : GFrame B G vn vw vn1 vw1 w w1.drew := ⟨below_drew h.below, h.size, h.keep, h.atn, h.atw⟩
theorem IsG.drew {w : World} {B G : Nat} {g : GCfg} {vn vw : Value} {nodes : List NodeS} {work : List PieceS} (h : IsG w B G g vn vw nodes work) : IsG w.drew B G g vn vw nodes work :=
  ⟨h.hblk, h.hge, Kd.R_drew h.hnodes, Kd.Q_drew h.hwork, fun q hq => Kd.R_drew (h.hrows q hq)⟩

set_option maxHeartbeats 2000000 in
set_option maxRecDepth 100000 in
theorem push_calls (B G : Nat) (g : GCfg) (vn vw : Value) (nodes : List NodeS) (work : List PieceS) (depth : Nat) (A : Option Addr) (c : Nat) (rows : List Int) (w : World) (h : IsG w B G g vn vw nodes work)
    (hq : (Kd.int .i64).R 3 w B (fun _ => True) (.slice A rows.length c) rows) (l1 : nodes.length ≤ 100000000) (l2 : work.length ≤ 100000000) (hB : B ≤ w.heap.size) :
    Calls Tryz.prog 48 #[.pointer (some ⟨G, 0, none⟩), .int .i64 depth, .slice A rows.length c] w fun e w' => e = .returned (.tuple #[]) ∧
      ∃ vn' vw', IsG w' B G g vn' vw' (nodes ++ [zN]) (work ++ [⟨nodes.length, depth, A, c, rows⟩]) ∧ GFrame B G vn vw vn' vw' w w' := by
  obtain ⟨An, cn, en⟩ := Kd.R_slice h.hnodes
  subst en
  obtain ⟨Aw, cw, ew, hcw⟩ := Kd.Q_slice h.hwork
  subst ew
  have hc16 := h.cells 16
  have hc17 := h.cells 17
  have hf := fun j => blk_frozen h.hblk j
  have H := Aside0.mk h
  have HQ := Aside0.mk hq
  clear h hq hcw
  go_enter Tryz.func48, Tryz.ntmps48
  go_wp2_with fail
  have HD := Aside0.mk H.out.drew
  have FD := Aside0.mk (GFrame.refl B G (.slice An nodes.length cn) (.slice Aw work.length cw) w).drew
  have HQD := Aside0.mk (Kd.R_drew HQ.out)
  have hBD : B ≤ w.drew.heap.size := hB
  have hn16 : ∀ o, (w.alloc o).cell? ⟨G, 16, none⟩ = some (.slice An nodes.length cn) := fun o => (World.cell?_alloc_lt _ _ _ (World.block_lt_of_cell? w _ hc16)).trans hc16
  have hn17 : ∀ o, (w.alloc o).cell? ⟨G, 17, none⟩ = some (.slice Aw work.length cw) := fun o => (World.cell?_alloc_lt _ _ _ (World.block_lt_of_cell? w _ hc17)).trans hc17
  clear hf H HQ
  go_region_law ((refine Kd.Q_append_step kP (w0 := w.drew) B (by rfl) (.tmp 10) (.tmp 19) 99 105 (.agg #[.int .i64 0, .int .i64 0, .slice none 0 0]) 40 (by rfl) Tryz.underlying99 info_piece rfl (by decide) (by omega) (.slice Aw work.length cw) work ⟨nodes.length, depth, A, c, rows⟩ _ (fun _ => True) (fun _ => False) (by rfl) (by rfl) (kP_mkM _ _ _ _) (fun _ hk => hk.elim) (fun _ _ => trivial) HD.out.hwork (Below.refl _ _) hBD (by omega) ?_; intro v1 w1 ho hb hg hat; obtain ⟨A1, c1, e1, _⟩ := Kd.Q_slice ho; rw [List.length_append, List.length_singleton] at e1; subst e1; have hG1 := blk_grown HD.out.hblk hg (Kd.Q_ne HD.out.hwork HD.out.hblk (by decide)); have hx16 : w1.cell? ⟨G, 16, none⟩ = some (.slice An nodes.length cn) := blk_cell hG1 16; have hx17 : w1.cell? ⟨G, 17, none⟩ = some (.slice Aw work.length cw) := blk_cell hG1 17; have hf1 := fun j => blk_frozen hG1 j; have I1 := Aside0.mk (HD.out.after_work ho hg (by intro q hq; rcases List.mem_append.1 hq with hq | hq; exact HD.out.hrows q hq; rw [List.mem_singleton.1 hq]; exact HQD.out)); have F1 := Aside0.mk (FD.out.trans (gframe_work hb hg hat HD.out.hge)); have s1 : B ≤ (w1.setCell ⟨G, 17, none⟩ (.slice A1 (work.length + 1) c1)).heap.size := (Nat.le_trans hB F1.out.size); clear ho hb hg hat hG1))
  all_goals (go_wp2_with (at_builtin; refine Kd.R_append kN (w0 := w1.setCell ⟨G, 17, none⟩ (.slice A1 (work.length + 1) c1)) B rfl (.tmp 27) (.tmp 29) 37 49 (.agg #[.int .i64 0, .int .i64 0, .int .i64 0, .int .i64 0, .int .i64 0, .int .i64 0]) 48 rfl Tryz.underlying37 info_node rfl (by decide) (by omega) (.slice An nodes.length cn) nodes zN _ (fun _ => True) (fun _ => False) rfl (by rw [World.size_setCell]; rfl) (kN_mkM _ _ _ _) (fun _ hk => hk.elim) (fun _ _ => trivial) I1.out.hnodes (Below.refl _ _) s1 (by omega) ?_; intro v2 w2 ho hb hg hat; obtain ⟨A2, c2, e2⟩ := Kd.R_slice ho; rw [List.length_append, List.length_singleton] at e2; subst e2; have hG2 := blk_grown I1.out.hblk hg (Kd.R_ne I1.out.hnodes I1.out.hblk (by decide)); have hz16 : w2.cell? ⟨G, 16, none⟩ = some (.slice An nodes.length cn) := blk_cell hG2 16; have hf2 := fun j => blk_frozen hG2 j; have I2 := Aside0.mk (I1.out.after_nodes ho hg); have F2 := Aside0.mk (F1.out.trans (gframe_nodes hb hg hat I1.out.hge)); clear ho hb hg hat hG2))
  all_goals (go_end0; exact ⟨rfl, _, _, I2.out, F2.out⟩)
end Go.Proofs.YtkjijponijmdkaaGreat
