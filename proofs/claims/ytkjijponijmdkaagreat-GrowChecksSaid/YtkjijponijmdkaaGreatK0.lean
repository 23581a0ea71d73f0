/-
  Words of this seat's own texts: the sample as data; what is told of slices that are read.
-/
import Derived.Test.YtkjijponijmdkaaGreatProg
import Derived.Test.YtkjijponijmdkaaGreatWWords
import Derived.Laws.Tables
import Derived.WalkKit
import Derived.KernelRfl
import Derived.BigQuiet
import Derived.Lib.Hide
namespace Go.Proofs.YtkjijponijmdkaaGreat
open Go.RowKit Go.Proofs.YtkjijponijmdkaaGreatW.PrintWords

/-- A goal that the walk leaves alone. -/
structure Marked (p : Prop) : Prop where mk :: (out : p)

/-- A sample, as data. -/
structure Smp where
  kind : Int
  classes : Int
  bins : Int
  trees : Int
  depth : Int
  leaf : Int
  pick : Int
  rows : Int
  cols : Int
  cells : List Int
  targets : List Int
  weights : List Int

abbrev cfgA (s : Smp) : Array Value := #[.int .i64 s.kind, .int .i64 s.classes, .int .i64 s.bins, .int .i64 s.trees, .int .i64 s.depth, .int .i64 s.leaf, .int .i64 s.pick]

/-- What the first field of a config that is wrong answers: from field i on. -/
def cfgTest (n low high : Int) (form : Bool) (rest : Int) : Int := if n < low then 3 else if form then 3 else if high < n then 4 else rest
def cfgCheck (kind classes bins trees depth leaf pick : Int) : Int :=
  cfgTest kind 0 1 (decide (1 < kind)) (cfgTest classes (if kind = 1 then 0 else 2) 256 (decide (kind = 1 ∧ classes ≠ 0)) (cfgTest bins 2 256 false (cfgTest trees 1 4096 false (cfgTest depth 0 32 false
    (cfgTest leaf 1 1048576 false (cfgTest pick 1 1024 false 0))))))
end Go.Proofs.YtkjijponijmdkaaGreat
