/-
  Contract: (*grower).grow, where the piece is a leaf.
-/
import Derived.Test.YtkjijponijmdkaaGreatT2
namespace Go.Proofs.YtkjijponijmdkaaGreat
open Go.RowKit Go.Proofs.YtkjijponijmdkaaGreatW.PrintWords

/-- What rows come to. -/
structure ToldS where
  size : Int
  pure : Bool
  cls : Int
  sum : Int
  count : Int
abbrev ToldS.cells (t : ToldS) : Array Value := toldA t.size t.pure t.cls t.sum t.count
abbrev ToldS.leaf (t : ToldS) : NodeS := ⟨-1, 0, 0, t.cls, t.sum, t.count⟩

theorem IsG.below {w w1 : World} {B G : Nat} {g : GCfg} {vn vw : Value} {nodes : List NodeS} {work : List PieceS} (h : IsG w B G g vn vw nodes work) (hb : Below w.heap.size w w1) : IsG w1 B G g vn vw nodes work :=
  ⟨blk_below h.hblk hb, h.hge, Kd.R_below h.hnodes hb, Kd.Q_below h.hwork hb, fun q hq => Kd.R_below (h.hrows q hq) hb⟩

theorem IsG.keep {w w1 : World} {B G T t : Nat} {cells : Array Value} {g : GCfg} {vn vw : Value} {nodes : List NodeS} {work : List PieceS} (h : IsG w B G g vn vw nodes work) (hT : w.heap[T]? = some (.cells cells t (0, 0)))
    (ht : ∀ q, q ∈ [101, 49, 105, 3] → q ≠ t) (hk : KeepBut w w1 T none) : IsG w1 B G g vn vw nodes work := by
  have hGT : G ≠ T := blk_ne h.hblk hT (ht _ (by simp))
  refine ⟨hk.blk h.hblk hGT (by simp), h.hge, ?_, ?_, fun q hq => ?_⟩
  · exact Kd.R_mono (Kd.R_keep (Kd.R_types h.hnodes hT (by intro q hq; simp [kN, Kd.iso, Kd.pair, Kd.int, Kd.scalar] at hq; subst hq; exact ht _ (by simp))) hk (fun _ hk => hk.2)) (fun _ hk => hk.1)
  · exact Kd.Q_mono (Kd.Q_keep (Kd.Q_types h.hwork hT (by intro q hq; simp [kP, Kd.iso, Kd.pair, Kd.int, Kd.scalar] at hq; subst hq; exact ht _ (by simp))) hk (fun _ hk => hk.2)) (fun _ hk => hk.1)
  · exact Kd.R_mono (Kd.R_keep (Kd.R_types (h.hrows q hq) hT (by intro q hq; simp [Kd.int, Kd.scalar] at hq; subst hq; exact ht _ (by simp))) hk (fun _ hk => hk.2)) (fun _ hk => hk.1)
theorem IsG.alloc {w : World} {B G : Nat} {g : GCfg} {vn vw : Value} {nodes : List NodeS} {work : List PieceS} (h : IsG w B G g vn vw nodes work) (o : Obj) : IsG (w.alloc o) B G g vn vw nodes work := h.below (below_alloc (Below.refl _ _) o)
/-- Eight cells of a block of eight are written. -/
theorem fill8 {w : World} {T t : Nat} {z0 z1 z2 z3 z4 z5 z6 z7 : Value} (hT : w.heap[T]? = some (.cells #[z0, z1, z2, z3, z4, z5, z6, z7] t (0, 0))) (v0 v1 v2 v3 v4 v5 v6 v7 : Value) :
    ((((((((w.setCell ⟨T, 0, none⟩ v0).setCell ⟨T, 1, none⟩ v1).setCell ⟨T, 2, none⟩ v2).setCell ⟨T, 3, none⟩ v3).setCell ⟨T, 4, none⟩ v4).setCell ⟨T, 5, none⟩ v5).setCell ⟨T, 6, none⟩ v6).setCell ⟨T, 7, none⟩ v7).heap[T]? = some (.cells #[v0, v1, v2, v3, v4, v5, v6, v7] t (0, 0)) ∧
    KeepBut w ((((((((w.setCell ⟨T, 0, none⟩ v0).setCell ⟨T, 1, none⟩ v1).setCell ⟨T, 2, none⟩ v2).setCell ⟨T, 3, none⟩ v3).setCell ⟨T, 4, none⟩ v4).setCell ⟨T, 5, none⟩ v5).setCell ⟨T, 6, none⟩ v6).setCell ⟨T, 7, none⟩ v7) T none := by
  have h1 : (w.setCell ⟨T, 0, none⟩ v0).heap[T]? = some (.cells #[v0, z1, z2, z3, z4, z5, z6, z7] t (0, 0)) := blk_set hT 0 v0
  have h2 : ((w.setCell ⟨T, 0, none⟩ v0).setCell ⟨T, 1, none⟩ v1).heap[T]? = some (.cells #[v0, v1, z2, z3, z4, z5, z6, z7] t (0, 0)) := blk_set h1 1 v1
  have h3 : (((w.setCell ⟨T, 0, none⟩ v0).setCell ⟨T, 1, none⟩ v1).setCell ⟨T, 2, none⟩ v2).heap[T]? = some (.cells #[v0, v1, v2, z3, z4, z5, z6, z7] t (0, 0)) := blk_set h2 2 v2
  have h4 : ((((w.setCell ⟨T, 0, none⟩ v0).setCell ⟨T, 1, none⟩ v1).setCell ⟨T, 2, none⟩ v2).setCell ⟨T, 3, none⟩ v3).heap[T]? = some (.cells #[v0, v1, v2, v3, z4, z5, z6, z7] t (0, 0)) := blk_set h3 3 v3
  have h5 : (((((w.setCell ⟨T, 0, none⟩ v0).setCell ⟨T, 1, none⟩ v1).setCell ⟨T, 2, none⟩ v2).setCell ⟨T, 3, none⟩ v3).setCell ⟨T, 4, none⟩ v4).heap[T]? = some (.cells #[v0, v1, v2, v3, v4, z5, z6, z7] t (0, 0)) := blk_set h4 4 v4
  have h6 : ((((((w.setCell ⟨T, 0, none⟩ v0).setCell ⟨T, 1, none⟩ v1).setCell ⟨T, 2, none⟩ v2).setCell ⟨T, 3, none⟩ v3).setCell ⟨T, 4, none⟩ v4).setCell ⟨T, 5, none⟩ v5).heap[T]? = some (.cells #[v0, v1, v2, v3, v4, v5, z6, z7] t (0, 0)) := blk_set h5 5 v5
  have h7 : (((((((w.setCell ⟨T, 0, none⟩ v0).setCell ⟨T, 1, none⟩ v1).setCell ⟨T, 2, none⟩ v2).setCell ⟨T, 3, none⟩ v3).setCell ⟨T, 4, none⟩ v4).setCell ⟨T, 5, none⟩ v5).setCell ⟨T, 6, none⟩ v6).heap[T]? = some (.cells #[v0, v1, v2, v3, v4, v5, v6, z7] t (0, 0)) := blk_set h6 6 v6
  have h8 : ((((((((w.setCell ⟨T, 0, none⟩ v0).setCell ⟨T, 1, none⟩ v1).setCell ⟨T, 2, none⟩ v2).setCell ⟨T, 3, none⟩ v3).setCell ⟨T, 4, none⟩ v4).setCell ⟨T, 5, none⟩ v5).setCell ⟨T, 6, none⟩ v6).setCell ⟨T, 7, none⟩ v7).heap[T]? = some (.cells #[v0, v1, v2, v3, v4, v5, v6, v7] t (0, 0)) := blk_set h7 7 v7
  exact ⟨h8, ((((((((KeepBut.refl w T none).set_ 0 v0).set_ 1 v1).set_ 2 v2).set_ 3 v3).set_ 4 v4).set_ 5 v5).set_ 6 v6).set_ 7 v7⟩

theorem IsG.after_set {w w1 : World} {B G : Nat} {g : GCfg} {vn vw : Value} {nodes nodes' : List NodeS} {work : List PieceS} (h : IsG w B G g vn vw nodes work) (ho : kN.R 49 w1 B (fun _ => True) vn nodes')
    (hg : w.grownBy w1 vn.ownBlock) : IsG w1 B G g vn vw nodes' work := by
  have hb1 := blk_grown h.hblk hg (Kd.R_ne h.hnodes h.hblk (by decide))
  exact ⟨hb1, h.hge, ho, Kd.Q_over' h.hwork (Kd.R_typed h.hnodes) (by decide) hg, fun q hq => Kd.R_over' (h.hrows q hq) (Kd.R_typed h.hnodes) (by decide) hg⟩
theorem gframe_set {w w1 : World} {B G : Nat} {vn vw : Value} (hb : Below B w w1) (hg : w.grownBy w1 vn.ownBlock) : GFrame B G vn vw vn vw w w1 :=
  ⟨hb, hg.size, fun k hk _ h2 _ => hg.block k hk h2, .inl rfl, .inl rfl⟩
theorem formN {e base n cap : Nat} {ok : Nat → Prop} {W : World} {A : Option Addr} {xs : List NodeS} (h : kN.R e W base ok (.slice A n cap) xs) (hp : 0 < xs.length) : ∃ g, A = some ⟨g, 0, none⟩ ∧ base ≤ g ∧ g < W.heap.size := by
  obtain ⟨g, c, e, h1, h2, _⟩ := Kd.R_form h hp
  injection e with e
  exact ⟨g, e, h1, h2⟩

set_option maxHeartbeats 2000000 in
set_option maxRecDepth 100000 in
theorem leaf_classes (B G b : Nat) (g : GCfg) (vn vw : Value) (nodes : List NodeS) (work : List PieceS) (node depth : Nat) (A : Option Addr) (c : Nat) (rows : List Int) (t : ToldS) (w : World) (h : IsG w B G g vn vw nodes work)
    (htell : g.tell = .func (.func 66) #[] #[.pointer (some ⟨b, 0, none⟩)]) (hB : B ≤ w.heap.size) (hn : node < nodes.length) (l1 : nodes.length ≤ 100000000)
    (HT : ∀ W, Below w.heap.size w W → Calls Tryz.prog 66 #[.slice A rows.length c, .pointer (some ⟨b, 0, none⟩)] W fun e W' => e = .returned (.agg t.cells) ∧ Below W.heap.size W W')
    (hleaf : 1 ≤ g.s.leaf ∧ g.s.leaf ≤ 1048576) (hstop : (depth : Int) = g.s.depth ∨ t.pure = true ∨ t.size < 2 * g.s.leaf) :
    Calls Tryz.prog 50 #[.pointer (some ⟨G, 0, none⟩), .agg #[.int .i64 node, .int .i64 depth, .slice A rows.length c]] w fun e w' => e = .returned (.int .i64 0) ∧
      ∃ vn' vw', IsG w' B G g vn' vw' (nodes.set node t.leaf) work ∧ GFrame B G vn vw vn' vw' w w' := by
  obtain ⟨An, cn, en⟩ := Kd.R_slice h.hnodes
  subst en
  have hc14 : ∀ o, (w.alloc o).cell? ⟨G, 14, none⟩ = some (.func (.func 66) #[] #[.pointer (some ⟨b, 0, none⟩)]) := fun o => (blk_cell (blk_alloc h.hblk o) 14).trans (by rw [← htell]; rfl)
  have hd14 : ∀ o o2, ((w.alloc o).alloc o2).cell? ⟨G, 14, none⟩ = some (.func (.func 66) #[] #[.pointer (some ⟨b, 0, none⟩)]) := fun o o2 => (blk_cell (blk_alloc (blk_alloc h.hblk o) o2) 14).trans (by rw [← htell]; rfl)
  have hGl : G < w.heap.size := blk_lt h.hblk
  have hne0 : w.heap.size ≠ G := by omega
  have hne1 : w.heap.size + 1 ≠ G := by omega
  have H := Aside0.mk h
  have HTT := Aside0.mk HT
  clear h HT htell
  go_enter Tryz.func50, Tryz.ntmps50
  go_upto_region 1 with (fail)
  go_cut [5] from 11 to 17 (fun v5 wr => ∃ T, v5 = .pointer (some ⟨T, 0, none⟩) ∧ wr.heap[T]? = some (.cells t.cells 127 (0, 0)) ∧ wr.heap[w.heap.size]? = some (.cells #[.int .i64 node, .int .i64 depth, .slice A rows.length c] 105 (0, 0)) ∧ IsG wr B G g (.slice An nodes.length cn) vw nodes work ∧ Below w.heap.size w wr)
  case first =>
    go_region_held3 (fun w2 => w2.cell? ⟨G, 14, none⟩ = some (.func (.func 66) #[] #[.pointer (some ⟨b, 0, none⟩)]) ∧ w2.cell? ⟨w.heap.size, 2, none⟩ = some (.slice A rows.length c)) (go_keep) (first | (go_at_call 66; refine (HTT.out _ (below_drew (below_alloc (Below.refl _ _) _))).mono ?_; rintro e w2 ⟨rfl, hb⟩; have hX2 := Aside0.mk (blk_below (blk_drew (blk_new w _)) hb); have hx2 := fun j => blk_cell hX2.out j; have H2 := Aside0.mk ((H.out.below (below_alloc (Below.refl _ _) _)).drew.below hb); have hy14 : w2.cell? ⟨G, 14, none⟩ = some (.func (.func 66) #[] #[.pointer (some ⟨b, 0, none⟩)]) := (pw_cell_below hb (hc14 _)); have hnw : w2.heap.size ≠ G := Nat.ne_of_gt (blk_lt H2.out.hblk); have hb2 := Aside0.mk (below_step (below_drew (below_alloc (Below.refl _ _) _)) hb); clear hb) | (go_at_call 66; refine (HTT.out _ (below_drew (below_alloc (below_alloc (Below.refl _ _) _) _))).mono ?_; rintro e w2 ⟨rfl, hb⟩; have hX2 := Aside0.mk (blk_below (blk_drew (blk_alloc (blk_new w _) _)) hb); have hT2 := Aside0.mk (blk_below (blk_drew (heap_alloc2_new w _ _)) hb); have hxT := fun j => blk_cell hT2.out j; have hfT := fun j => blk_frozen hT2.out j; have hx2 := fun j => blk_cell hX2.out j; have H2 := Aside0.mk ((H.out.below (below_alloc (below_alloc (Below.refl _ _) _) _)).drew.below hb); have hy14 : w2.cell? ⟨G, 14, none⟩ = some (.func (.func 66) #[] #[.pointer (some ⟨b, 0, none⟩)]) := (pw_cell_below hb (hd14 _ _)); have hnw : w2.heap.size ≠ G := Nat.ne_of_gt (blk_lt H2.out.hblk); have hb2 := Aside0.mk (below_step (below_drew (below_alloc (below_alloc (Below.refl _ _) _) _)) hb); clear hb))
    all_goals (go_wp2_with fail; go_meet)
    · exact ⟨_, rfl, blk_new _ _, blk_alloc hX2.out _, H2.out.alloc _, below_alloc hb2.out _⟩
    · have f8 := fill8 hT2.out (.int .i64 t.size) (.bool t.pure) (.int .i64 (-1)) (.int .i64 0) (.int .i64 0) (.int .i64 t.cls) (.int .i64 t.sum) (.int .i64 t.count)
      refine ⟨_, rfl, f8.1, f8.2.blk hX2.out (by omega) (by simp), H2.out.keep hT2.out (by decide) f8.2, ?_⟩
      iterate 8 refine below_set ?_ (by omega)
      exact hb2.out
  case rest =>
    obtain ⟨T, rfl, hT, hP, hG, hBl⟩ := hcut
    obtain ⟨ng, ea, hng, hngl⟩ := formN hG.hnodes (by omega)
    subst ea
    have hgc : wc.cell? ⟨G, 16, none⟩ = some (.slice (some ⟨ng, 0, none⟩) nodes.length cn) := hG.cells 16
    have hpc := fun j => blk_cell hP j
    have htc := fun j => blk_cell hT j
    obtain ⟨old, hol, hoc⟩ := Kd.R_elem hG.hnodes zN (node : Int) (by omega) (by omega)
    have HG := Aside0.mk hG.drew
    have HP := Aside0.mk (blk_drew hP)
    have HT2 := Aside0.mk (blk_drew hT)
    have HBl := Aside0.mk (below_drew hBl)
    have HOC := Aside0.mk (show ∀ j u, old[j]? = some u → wc.drew.cell? ⟨ng, (node : Int).toNat * kN.sz + j, none⟩ = some u from hoc.2.1)
    clear hT hP hG hBl hoc
    have hnl : (node : Int) < nodes.length := by omega
    go_wp2_with fail
    refine wp_region_still_tail 9 (by kernel_rfl) (by kernel_rfl) ?_
    simp only [List.take_succ_cons, List.take_zero, List.drop_succ_cons, List.drop_zero]
    repeat still_step
    refine wpStill_nil ?_
    change wpList _ _ _ _ _ wc.drew
    clear hgc hpc htc
    generalize wc.drew = wd at HG HP HT2 HBl HOC ⊢
    have hM : ∀ W, kN.M W B (fun _ => False) t.leaf (old.take 0 ++ t.leaf.cells ++ old.drop (0 + t.leaf.cells.length)) := fun W => by
      rw [List.take_zero, List.drop_eq_nil_of_le (by rw [hol]; exact Nat.le_refl 6), List.append_nil, List.nil_append]
      exact kN_mkM W B _ t.leaf
    have HM := Aside0.mk hM
    have HOL := Aside0.mk hol
    clear hM hol
    refine Kd.R_store kN (w0 := wd) B rfl rfl 49 (.tmp 26) (.tmp 25) rfl 49 (o' := node * 6) (node : Int) 0 nodes t.leaf (.agg #[.int .i64 (-1), .int .i64 0, .int .i64 0, .int .i64 t.cls, .int .i64 t.sum, .int .i64 t.count]) t.leaf.cells old (fun _ => True) (fun _ => False) rfl rfl rfl rfl (by kernel_rfl) (by simp [Value.oneCell']) HG.out.hnodes (by omega) (by omega) HOL.out HOC.out (Nat.le_refl 6) (HM.out _) (fun _ hk => hk.elim) (Below.refl _ _) ?_
    intro w1 ho hb hg
    have G1 := Aside0.mk (HG.out.after_set ho hg)
    have F1 := Aside0.mk ((GFrame.of_below (B := B) (G := G) (.slice (some ⟨ng, 0, none⟩) nodes.length cn) vw HBl.out hB).trans (gframe_set (G := G) (vw := vw) hb hg))
    have hP1 := blk_grown HP.out hg (Kd.R_ne HG.out.hnodes HP.out (by decide))
    have hT1 := blk_grown HT2.out hg (Kd.R_ne HG.out.hnodes HT2.out (by decide))
    have hxP := fun o j => blk_cell (blk_alloc hP1 o) j
    have hxT := fun o j => blk_cell (blk_alloc (show w1.heap[T]? = some (.cells #[.int .i64 t.size, .bool t.pure, .int .i64 (-1), .int .i64 0, .int .i64 0, .int .i64 t.cls, .int .i64 t.sum, .int .i64 t.count] 127 (0, 0)) from hT1) o) j
    have hg0 : w1.cell? ⟨G, 0, none⟩ = some (.int .i64 g.s.kind) := G1.out.cells 0
    have hg1 : w1.cell? ⟨G, 1, none⟩ = some (.int .i64 g.s.classes) := G1.out.cells 1
    have hg2 : w1.cell? ⟨G, 2, none⟩ = some (.int .i64 g.s.bins) := G1.out.cells 2
    have hg3 : w1.cell? ⟨G, 3, none⟩ = some (.int .i64 g.s.trees) := G1.out.cells 3
    have hg4 : w1.cell? ⟨G, 4, none⟩ = some (.int .i64 g.s.depth) := G1.out.cells 4
    have hg5 : w1.cell? ⟨G, 5, none⟩ = some (.int .i64 g.s.leaf) := G1.out.cells 5
    have hg6 : w1.cell? ⟨G, 6, none⟩ = some (.int .i64 g.s.pick) := G1.out.cells 6
    have hBw : B ≤ w1.heap.size := Nat.le_trans hB F1.out.size
    clear ho hb hg hP1 hT1
    by_cases b1 : (depth : Int) = g.s.depth
    · have d1 : ((depth : Int) == g.s.depth) = true := by simpa using b1
      clear b1 hstop
      go_wp2_with fail
      go_ret
      exact ⟨rfl, _, _, G1.out.alloc _, F1.out.trans (GFrame.of_below _ _ (below_alloc (Below.refl _ _) _) hBw)⟩
    · have d1 : ((depth : Int) == g.s.depth) = false := by simpa using b1
      cases hp : t.pure with
      | true =>
        clear b1 hstop
        go_wp2_with fail
        go_ret
        exact ⟨rfl, _, _, G1.out.alloc _, F1.out.trans (GFrame.of_below _ _ (below_alloc (Below.refl _ _) _) hBw)⟩
      | false =>
        have d2 : t.size < 2 * g.s.leaf := by
          rcases hstop with h | h | h
          · exact absurd h b1
          · rw [hp] at h; cases h
          · exact h
        clear b1 hstop
        go_wp2_with fail
        go_ret
        exact ⟨rfl, _, _, G1.out.alloc _, F1.out.trans (GFrame.of_below _ _ (below_alloc (Below.refl _ _) _) hBw)⟩
set_option maxHeartbeats 2000000 in
set_option maxRecDepth 100000 in
theorem leaf_means (B G b : Nat) (g : GCfg) (vn vw : Value) (nodes : List NodeS) (work : List PieceS) (node depth : Nat) (A : Option Addr) (c : Nat) (rows : List Int) (t : ToldS) (w : World) (h : IsG w B G g vn vw nodes work)
    (htell : g.tell = .func (.func 69) #[] #[.pointer (some ⟨b, 0, none⟩)]) (hB : B ≤ w.heap.size) (hn : node < nodes.length) (l1 : nodes.length ≤ 100000000)
    (HT : ∀ W, Below w.heap.size w W → Calls Tryz.prog 69 #[.slice A rows.length c, .pointer (some ⟨b, 0, none⟩)] W fun e W' => e = .returned (.agg t.cells) ∧ Below W.heap.size W W')
    (hleaf : 1 ≤ g.s.leaf ∧ g.s.leaf ≤ 1048576) (hstop : (depth : Int) = g.s.depth ∨ t.pure = true ∨ t.size < 2 * g.s.leaf) :
    Calls Tryz.prog 50 #[.pointer (some ⟨G, 0, none⟩), .agg #[.int .i64 node, .int .i64 depth, .slice A rows.length c]] w fun e w' => e = .returned (.int .i64 0) ∧
      ∃ vn' vw', IsG w' B G g vn' vw' (nodes.set node t.leaf) work ∧ GFrame B G vn vw vn' vw' w w' := by
  obtain ⟨An, cn, en⟩ := Kd.R_slice h.hnodes
  subst en
  have hc14 : ∀ o, (w.alloc o).cell? ⟨G, 14, none⟩ = some (.func (.func 69) #[] #[.pointer (some ⟨b, 0, none⟩)]) := fun o => (blk_cell (blk_alloc h.hblk o) 14).trans (by rw [← htell]; rfl)
  have hd14 : ∀ o o2, ((w.alloc o).alloc o2).cell? ⟨G, 14, none⟩ = some (.func (.func 69) #[] #[.pointer (some ⟨b, 0, none⟩)]) := fun o o2 => (blk_cell (blk_alloc (blk_alloc h.hblk o) o2) 14).trans (by rw [← htell]; rfl)
  have hGl : G < w.heap.size := blk_lt h.hblk
  have hne0 : w.heap.size ≠ G := by omega
  have hne1 : w.heap.size + 1 ≠ G := by omega
  have H := Aside0.mk h
  have HTT := Aside0.mk HT
  clear h HT htell
  go_enter Tryz.func50, Tryz.ntmps50
  go_upto_region 1 with (fail)
  go_cut [5] from 11 to 17 (fun v5 wr => ∃ T, v5 = .pointer (some ⟨T, 0, none⟩) ∧ wr.heap[T]? = some (.cells t.cells 127 (0, 0)) ∧ wr.heap[w.heap.size]? = some (.cells #[.int .i64 node, .int .i64 depth, .slice A rows.length c] 105 (0, 0)) ∧ IsG wr B G g (.slice An nodes.length cn) vw nodes work ∧ Below w.heap.size w wr)
  case first =>
    go_region_held3 (fun w2 => w2.cell? ⟨G, 14, none⟩ = some (.func (.func 69) #[] #[.pointer (some ⟨b, 0, none⟩)]) ∧ w2.cell? ⟨w.heap.size, 2, none⟩ = some (.slice A rows.length c)) (go_keep) (first | (go_at_call 69; refine (HTT.out _ (below_drew (below_alloc (Below.refl _ _) _))).mono ?_; rintro e w2 ⟨rfl, hb⟩; have hX2 := Aside0.mk (blk_below (blk_drew (blk_new w _)) hb); have hx2 := fun j => blk_cell hX2.out j; have H2 := Aside0.mk ((H.out.below (below_alloc (Below.refl _ _) _)).drew.below hb); have hy14 : w2.cell? ⟨G, 14, none⟩ = some (.func (.func 69) #[] #[.pointer (some ⟨b, 0, none⟩)]) := (pw_cell_below hb (hc14 _)); have hnw : w2.heap.size ≠ G := Nat.ne_of_gt (blk_lt H2.out.hblk); have hb2 := Aside0.mk (below_step (below_drew (below_alloc (Below.refl _ _) _)) hb); clear hb) | (go_at_call 69; refine (HTT.out _ (below_drew (below_alloc (below_alloc (Below.refl _ _) _) _))).mono ?_; rintro e w2 ⟨rfl, hb⟩; have hX2 := Aside0.mk (blk_below (blk_drew (blk_alloc (blk_new w _) _)) hb); have hT2 := Aside0.mk (blk_below (blk_drew (heap_alloc2_new w _ _)) hb); have hxT := fun j => blk_cell hT2.out j; have hfT := fun j => blk_frozen hT2.out j; have hx2 := fun j => blk_cell hX2.out j; have H2 := Aside0.mk ((H.out.below (below_alloc (below_alloc (Below.refl _ _) _) _)).drew.below hb); have hy14 : w2.cell? ⟨G, 14, none⟩ = some (.func (.func 69) #[] #[.pointer (some ⟨b, 0, none⟩)]) := (pw_cell_below hb (hd14 _ _)); have hnw : w2.heap.size ≠ G := Nat.ne_of_gt (blk_lt H2.out.hblk); have hb2 := Aside0.mk (below_step (below_drew (below_alloc (below_alloc (Below.refl _ _) _) _)) hb); clear hb))
    all_goals (go_wp2_with fail; go_meet)
    · exact ⟨_, rfl, blk_new _ _, blk_alloc hX2.out _, H2.out.alloc _, below_alloc hb2.out _⟩
    · have f8 := fill8 hT2.out (.int .i64 t.size) (.bool t.pure) (.int .i64 (-1)) (.int .i64 0) (.int .i64 0) (.int .i64 t.cls) (.int .i64 t.sum) (.int .i64 t.count)
      refine ⟨_, rfl, f8.1, f8.2.blk hX2.out (by omega) (by simp), H2.out.keep hT2.out (by decide) f8.2, ?_⟩
      iterate 8 refine below_set ?_ (by omega)
      exact hb2.out
  case rest =>
    obtain ⟨T, rfl, hT, hP, hG, hBl⟩ := hcut
    obtain ⟨ng, ea, hng, hngl⟩ := formN hG.hnodes (by omega)
    subst ea
    have hgc : wc.cell? ⟨G, 16, none⟩ = some (.slice (some ⟨ng, 0, none⟩) nodes.length cn) := hG.cells 16
    have hpc := fun j => blk_cell hP j
    have htc := fun j => blk_cell hT j
    obtain ⟨old, hol, hoc⟩ := Kd.R_elem hG.hnodes zN (node : Int) (by omega) (by omega)
    have HG := Aside0.mk hG.drew
    have HP := Aside0.mk (blk_drew hP)
    have HT2 := Aside0.mk (blk_drew hT)
    have HBl := Aside0.mk (below_drew hBl)
    have HOC := Aside0.mk (show ∀ j u, old[j]? = some u → wc.drew.cell? ⟨ng, (node : Int).toNat * kN.sz + j, none⟩ = some u from hoc.2.1)
    clear hT hP hG hBl hoc
    have hnl : (node : Int) < nodes.length := by omega
    go_wp2_with fail
    refine wp_region_still_tail 9 (by kernel_rfl) (by kernel_rfl) ?_
    simp only [List.take_succ_cons, List.take_zero, List.drop_succ_cons, List.drop_zero]
    repeat still_step
    refine wpStill_nil ?_
    change wpList _ _ _ _ _ wc.drew
    clear hgc hpc htc
    generalize wc.drew = wd at HG HP HT2 HBl HOC ⊢
    have hM : ∀ W, kN.M W B (fun _ => False) t.leaf (old.take 0 ++ t.leaf.cells ++ old.drop (0 + t.leaf.cells.length)) := fun W => by
      rw [List.take_zero, List.drop_eq_nil_of_le (by rw [hol]; exact Nat.le_refl 6), List.append_nil, List.nil_append]
      exact kN_mkM W B _ t.leaf
    have HM := Aside0.mk hM
    have HOL := Aside0.mk hol
    clear hM hol
    refine Kd.R_store kN (w0 := wd) B rfl rfl 49 (.tmp 26) (.tmp 25) rfl 49 (o' := node * 6) (node : Int) 0 nodes t.leaf (.agg #[.int .i64 (-1), .int .i64 0, .int .i64 0, .int .i64 t.cls, .int .i64 t.sum, .int .i64 t.count]) t.leaf.cells old (fun _ => True) (fun _ => False) rfl rfl rfl rfl (by kernel_rfl) (by simp [Value.oneCell']) HG.out.hnodes (by omega) (by omega) HOL.out HOC.out (Nat.le_refl 6) (HM.out _) (fun _ hk => hk.elim) (Below.refl _ _) ?_
    intro w1 ho hb hg
    have G1 := Aside0.mk (HG.out.after_set ho hg)
    have F1 := Aside0.mk ((GFrame.of_below (B := B) (G := G) (.slice (some ⟨ng, 0, none⟩) nodes.length cn) vw HBl.out hB).trans (gframe_set (G := G) (vw := vw) hb hg))
    have hP1 := blk_grown HP.out hg (Kd.R_ne HG.out.hnodes HP.out (by decide))
    have hT1 := blk_grown HT2.out hg (Kd.R_ne HG.out.hnodes HT2.out (by decide))
    have hxP := fun o j => blk_cell (blk_alloc hP1 o) j
    have hxT := fun o j => blk_cell (blk_alloc (show w1.heap[T]? = some (.cells #[.int .i64 t.size, .bool t.pure, .int .i64 (-1), .int .i64 0, .int .i64 0, .int .i64 t.cls, .int .i64 t.sum, .int .i64 t.count] 127 (0, 0)) from hT1) o) j
    have hg0 : w1.cell? ⟨G, 0, none⟩ = some (.int .i64 g.s.kind) := G1.out.cells 0
    have hg1 : w1.cell? ⟨G, 1, none⟩ = some (.int .i64 g.s.classes) := G1.out.cells 1
    have hg2 : w1.cell? ⟨G, 2, none⟩ = some (.int .i64 g.s.bins) := G1.out.cells 2
    have hg3 : w1.cell? ⟨G, 3, none⟩ = some (.int .i64 g.s.trees) := G1.out.cells 3
    have hg4 : w1.cell? ⟨G, 4, none⟩ = some (.int .i64 g.s.depth) := G1.out.cells 4
    have hg5 : w1.cell? ⟨G, 5, none⟩ = some (.int .i64 g.s.leaf) := G1.out.cells 5
    have hg6 : w1.cell? ⟨G, 6, none⟩ = some (.int .i64 g.s.pick) := G1.out.cells 6
    have hBw : B ≤ w1.heap.size := Nat.le_trans hB F1.out.size
    clear ho hb hg hP1 hT1
    by_cases b1 : (depth : Int) = g.s.depth
    · have d1 : ((depth : Int) == g.s.depth) = true := by simpa using b1
      clear b1 hstop
      go_wp2_with fail
      go_ret
      exact ⟨rfl, _, _, G1.out.alloc _, F1.out.trans (GFrame.of_below _ _ (below_alloc (Below.refl _ _) _) hBw)⟩
    · have d1 : ((depth : Int) == g.s.depth) = false := by simpa using b1
      cases hp : t.pure with
      | true =>
        clear b1 hstop
        go_wp2_with fail
        go_ret
        exact ⟨rfl, _, _, G1.out.alloc _, F1.out.trans (GFrame.of_below _ _ (below_alloc (Below.refl _ _) _) hBw)⟩
      | false =>
        have d2 : t.size < 2 * g.s.leaf := by
          rcases hstop with h | h | h
          · exact absurd h b1
          · rw [hp] at h; cases h
          · exact h
        clear b1 hstop
        go_wp2_with fail
        go_ret
        exact ⟨rfl, _, _, G1.out.alloc _, F1.out.trans (GFrame.of_below _ _ (below_alloc (Below.refl _ _) _) hBw)⟩
end Go.Proofs.YtkjijponijmdkaaGreat
