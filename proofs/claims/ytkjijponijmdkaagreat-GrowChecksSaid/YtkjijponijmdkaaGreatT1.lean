/-
  The grower's memory: its nodes, its pieces, itself.
-/
import Derived.Test.YtkjijponijmdkaaGreatC1
import Derived.StillTailTactics
import Derived.Deep.RegionLaw
namespace Go.Proofs.YtkjijponijmdkaaGreat
open Go.RowKit Go.Proofs.YtkjijponijmdkaaGreatW.PrintWords

structure NodeS where
  feature : Int
  bin : Int
  left : Int
  cls : Int
  sum : Int
  count : Int
instance : DecidableEq NodeS := fun a b => decidable_of_iff (a.feature = b.feature ∧ a.bin = b.bin ∧ a.left = b.left ∧ a.cls = b.cls ∧ a.sum = b.sum ∧ a.count = b.count)
  ⟨fun h => by cases a; cases b; obtain ⟨h0, h1, h2, h3, h4, h5⟩ := h; subst h0 h1 h2 h3 h4 h5; rfl, fun h => by subst h; exact ⟨rfl, rfl, rfl, rfl, rfl, rfl⟩⟩
def zN : NodeS := ⟨0, 0, 0, 0, 0, 0⟩
abbrev NodeS.cells (x : NodeS) : List Value := [.int .i64 x.feature, .int .i64 x.bin, .int .i64 x.left, .int .i64 x.cls, .int .i64 x.sum, .int .i64 x.count]
def kN : Kd NodeS := Kd.iso (Kd.pair (Kd.int .i64) (Kd.pair (Kd.int .i64) (Kd.pair (Kd.int .i64) (Kd.pair (Kd.int .i64) (Kd.pair (Kd.int .i64) (Kd.int .i64)))))) (fun x : NodeS => (x.feature, x.bin, x.left, x.cls, x.sum, x.count))
theorem kN_open {w : World} {x : NodeS} {cs : List Value} (h : kN.K w x cs) : cs = x.cells := by
  obtain ⟨_, _, rfl, h0, _, _, rfl, h1, _, _, rfl, h2, _, _, rfl, h3, _, _, rfl, h4, h5⟩ := h
  rw [show _ = _ from h0, show _ = _ from h1, show _ = _ from h2, show _ = _ from h3, show _ = _ from h4, show _ = _ from h5]
  rfl
theorem kN_mkM (w : World) (base : Nat) (ok : Nat → Prop) (x : NodeS) : kN.M w base ok x x.cells :=
  ⟨[.int .i64 x.feature], _, rfl, rfl, [.int .i64 x.bin], _, rfl, rfl, [.int .i64 x.left], _, rfl, rfl, [.int .i64 x.cls], _, rfl, rfl, [.int .i64 x.sum], [.int .i64 x.count], rfl, rfl, rfl⟩

/-- A piece: a node's number, its depth, where its rows lie, its rows. -/
structure PieceS where
  node : Nat
  depth : Nat
  A : Option Addr
  c : Nat
  rows : List Int
abbrev PieceS.v (q : PieceS) : Value := .slice q.A q.rows.length q.c
abbrev PieceS.cells (q : PieceS) : List Value := [.int .i64 q.node, .int .i64 q.depth, q.v]
def kP : Kd PieceS := Kd.iso (Kd.pair (Kd.int .i64) (Kd.pair (Kd.int .i64) (Kd.scalar (fun q : PieceS => q.v) (fun _ => rfl)))) (fun q : PieceS => ((q.node : Int), (q.depth : Int), q))
theorem kP_open {w : World} {x : PieceS} {cs : List Value} (h : kP.K w x cs) : cs = x.cells := by
  obtain ⟨_, _, rfl, h0, _, _, rfl, h1, h2⟩ := h
  rw [show _ = _ from h0, show _ = _ from h1, show _ = _ from h2]
  rfl
theorem kP_mkM (w : World) (base : Nat) (ok : Nat → Prop) (x : PieceS) : kP.M w base ok x x.cells :=
  ⟨[.int .i64 x.node], _, rfl, rfl, [.int .i64 x.depth], [x.v], rfl, rfl, rfl⟩
theorem info_node : (Tryz.prog.info? 49).map (fun i => (i.zero, i.size, i.bytes)) = some (some (.agg #[.int .i64 0, .int .i64 0, .int .i64 0, .int .i64 0, .int .i64 0, .int .i64 0]), 6, 48) := by kernel_rfl
theorem info_piece : (Tryz.prog.info? 105).map (fun i => (i.zero, i.size, i.bytes)) = some (some (.agg #[.int .i64 0, .int .i64 0, .slice none 0 0]), 3, 40) := by kernel_rfl
end Go.Proofs.YtkjijponijmdkaaGreat
