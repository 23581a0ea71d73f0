/-
  A sample, as the row's reading opens it.
-/
import Derived.Test.YtkjijponijmdkaaGreatK6
import Derived.WalkKit
import Derived.ProofKit
import Derived.OpenShut
import Derived.ShutString
import Derived.ChangeOld
import Derived.Below
import Derived.SizedLaws
namespace Go.Proofs.YtkjijponijmdkaaGreat
open Go.RowKit Go.Proofs.YtkjijponijmdkaaGreatW.PrintWords
open Go.ChangeShapes Go.WideShapes Go.ChangeAt

section
variable {H : Type} {enc : TypeId × Value → H} {w : World} {base : Nat} {held : Bool}
set_option maxRecDepth 100000 in
theorem trod_ints {t e n : Nat} {k : IntKind} {v : Value} {y : DataW H × List MemPlace} (ht : Tryz.prog.underlying t = some (.slice e)) (he : Tryz.prog.underlying e = some (.int k)) (hc : Tryz.prog.cellsOf e = 1)
    (h : DataW.trod enc Tryz.prog w base (fun _ => true) held n t [v] = some y) :
    ∃ A c l, v = .slice A l.length c ∧ l.length ≤ c ∧ (Kd.int k).C w A l.length l ∧ ∀ x ∈ l, (Lit.int k x).wf = true := by
  rcases open_ints ht he hc h with ⟨hcs, _⟩ | ⟨x, len, c, zs, hcs, _, hl, hm, hz, _, hcell, hwz⟩
  · injection hcs with hcs
    exact ⟨none, 0, [], hcs, Nat.le_refl 0, ⟨rfl, by decide, fun h => absurd h (by decide)⟩, by simp⟩
  · injection hcs with hcs
    have hz' : zs.length = c := by simpa using hz
    have hlen : (zs.take len).length = len := by rw [List.length_take]; omega
    refine ⟨some x, c, zs.take len, by rw [hlen]; exact hcs, by rw [hlen]; exact hl, ⟨rfl, ?_, fun _ => ⟨x, rfl, fun j p hp => ⟨[.int k p], rfl, rfl, fun i u hu => ?_⟩⟩⟩, fun z hz => hwz z (List.mem_of_mem_take hz)⟩
    · rw [hlen]
      unfold maxLen at hm
      omega
    · have hj : j < len := by
        have := (List.getElem?_eq_some_iff.mp hp).1
        omega
      match i, hu with
      | 0, hu =>
        injection hu with hu
        subst hu
        have e1 := hcell j (by omega)
        rw [List.getElem?_take_of_lt hj] at hp
        rw [List.getD_eq_getElem?_getD, hp] at e1
        have e2 : j * (Kd.int k).sz + 0 = j := by simp [Kd.int, Kd.scalar]
        rw [e2]
        exact e1
theorem array12 {α : Type} {cs : Array α} (h : cs.size = 12) : ∃ c0 c1 c2 c3 c4 c5 c6 c7 c8 c9 c10 c11, cs = #[c0, c1, c2, c3, c4, c5, c6, c7, c8, c9, c10, c11] := by
  obtain ⟨l⟩ := cs
  match l, h with
  | [c0, c1, c2, c3, c4, c5, c6, c7, c8, c9, c10, c11], _ => exact ⟨c0, c1, c2, c3, c4, c5, c6, c7, c8, c9, c10, c11, rfl⟩
theorem rd_all {l : List Int} {P : Int → Prop} (h0 : P 0) (h : ∀ x ∈ l, P x) (j : Int) : P (rd l j) := by
  unfold rd
  rw [List.getD_eq_getElem?_getD]
  cases e : l[j.toNat]? with
  | none => exact h0
  | some x => exact h x (List.mem_of_getElem? e)
set_option maxRecDepth 100000 in
theorem smp_open {v : Value} {d : DataW H} {p : List MemPlace} {r : Reach} {b0 : Nat} (hv : Value.okWide Tryz.prog w r b0 30 v) (h : DataW.Trod enc Tryz.prog w base (fun _ => true) held 30 v d p) :
    ∃ s q, v = .agg (smpA s q) ∧ SmpRd w s q := by
  obtain ⟨cs, rfl, hsz⟩ := okWide_struct Tryz.underlying30 hv
  obtain ⟨c0, c1, c2, c3, c4, c5, c6, c7, c8, c9, c10, c11, rfl⟩ := array12 (hsz.trans (by kernel_rfl))
  obtain ⟨fuel, hf⟩ := h
  obtain ⟨xs, n, _, _, _, hxs, hfs⟩ := DataW.trod_struct Tryz.underlying30 hf
  match xs, hxs with
  | [y0, y1, y2, y3], _ =>
    have f0 : DataW.trod enc Tryz.prog w base (fun _ => true) held n 23 [c0, c1, c2, c3, c4, c5, c6] = some y0 := hfs 0 _ rfl
    have f1 : DataW.trod enc Tryz.prog w base (fun _ => true) held n 26 [c7, c8, c9] = some y1 := hfs 1 _ rfl
    have f2 : DataW.trod enc Tryz.prog w base (fun _ => true) held n 27 [c10] = some y2 := hfs 2 _ rfl
    have f3 : DataW.trod enc Tryz.prog w base (fun _ => true) held n 28 [c11] = some y3 := hfs 3 _ rfl
    clear hfs hf hv
    obtain ⟨At, ct, lt, rfl, hlt, hCt, hwt⟩ := trod_ints Tryz.underlying27 Tryz.underlying2 (by kernel_rfl) f2
    obtain ⟨Aw, cw, lw, rfl, hlw, hCw, hww⟩ := trod_ints Tryz.underlying28 Tryz.underlying3 (by kernel_rfl) f3
    obtain ⟨ms, n1, _, _, _, hms, hm⟩ := DataW.trod_struct Tryz.underlying26 f1
    obtain ⟨ks, n2, _, _, _, hks, hk⟩ := DataW.trod_struct Tryz.underlying23 f0
    match ms, hms, ks, hks with
    | [m0, m1, m2], _, [k0, k1, k2, k3, k4, k5, k6], _ =>
      have g0 : DataW.trod enc Tryz.prog w base (fun _ => true) held n1 3 [c7] = some m0 := hm 0 _ rfl
      have g1 : DataW.trod enc Tryz.prog w base (fun _ => true) held n1 3 [c8] = some m1 := hm 1 _ rfl
      have g2 : DataW.trod enc Tryz.prog w base (fun _ => true) held n1 24 [c9] = some m2 := hm 2 _ rfl
      have e0 : DataW.trod enc Tryz.prog w base (fun _ => true) held n2 3 [c0] = some k0 := hk 0 _ rfl
      have e1 : DataW.trod enc Tryz.prog w base (fun _ => true) held n2 3 [c1] = some k1 := hk 1 _ rfl
      have e2 : DataW.trod enc Tryz.prog w base (fun _ => true) held n2 3 [c2] = some k2 := hk 2 _ rfl
      have e3 : DataW.trod enc Tryz.prog w base (fun _ => true) held n2 3 [c3] = some k3 := hk 3 _ rfl
      have e4 : DataW.trod enc Tryz.prog w base (fun _ => true) held n2 3 [c4] = some k4 := hk 4 _ rfl
      have e5 : DataW.trod enc Tryz.prog w base (fun _ => true) held n2 3 [c5] = some k5 := hk 5 _ rfl
      have e6 : DataW.trod enc Tryz.prog w base (fun _ => true) held n2 3 [c6] = some k6 := hk 6 _ rfl
      clear hm hk f0 f1 f2 f3
      obtain ⟨Ac, cc, lc, rfl, hlc, hCc, hwc⟩ := trod_ints Tryz.underlying24 Tryz.underlying52 (by kernel_rfl) g2
      obtain ⟨x7, q7, _, w7⟩ := DataW.trod_int Tryz.underlying3 g0
      obtain ⟨x8, q8, _, w8⟩ := DataW.trod_int Tryz.underlying3 g1
      obtain ⟨x0, q0, _, w0⟩ := DataW.trod_int Tryz.underlying3 e0
      obtain ⟨x1, q1, _, w1⟩ := DataW.trod_int Tryz.underlying3 e1
      obtain ⟨x2, q2, _, w2⟩ := DataW.trod_int Tryz.underlying3 e2
      obtain ⟨x3, q3, _, w3⟩ := DataW.trod_int Tryz.underlying3 e3
      obtain ⟨x4, q4, _, w4⟩ := DataW.trod_int Tryz.underlying3 e4
      obtain ⟨x5, q5, _, w5⟩ := DataW.trod_int Tryz.underlying3 e5
      obtain ⟨x6, q6, _, w6⟩ := DataW.trod_int Tryz.underlying3 e6
      injection q0 with q0 _
      injection q1 with q1 _
      injection q2 with q2 _
      injection q3 with q3 _
      injection q4 with q4 _
      injection q5 with q5 _
      injection q6 with q6 _
      injection q7 with q7 _
      injection q8 with q8 _
      subst q0 q1 q2 q3 q4 q5 q6 q7 q8
      refine ⟨⟨x0, x1, x2, x3, x4, x5, x6, x7, x8, lc, lt, lw⟩, ⟨Ac, cc, At, ct, Aw, cw⟩, rfl, ⟨⟨bounds_i64 w0, bounds_i64 w1, bounds_i64 w2, bounds_i64 w3, bounds_i64 w4, bounds_i64 w5, bounds_i64 w6, bounds_i64 w7, bounds_i64 w8, ?_, ?_, ?_⟩, hCc, hCt, hCw, hlc, hlt, hlw⟩⟩
      · exact rd_all (by decide) (fun x hx => bounds_u16 (hwc x hx))
      · exact rd_all (by unfold inI; decide) (fun x hx => bounds_i64 (hwt x hx))
      · exact rd_all (by unfold inI; decide) (fun x hx => bounds_i64 (hww x hx))
end
end Go.Proofs.YtkjijponijmdkaaGreat
