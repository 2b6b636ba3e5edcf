/-
  The law's queue (a struct: an int and a slice of structs of three ints), opened.
-/
import Derived.Test.YtnlnojolodnheaaP0
import Derived.Deep.SlicePairs
import Derived.Lib.SmallJoins
import Derived.OpenShut
import Derived.WalkKit
namespace Go.Proofs.Ytnlnojolodnheaa.P
open Go.ChangeShapes Go.WideShapes Go.RowKit Go.Deep Go.Joins Go.Proofs.YtnlnojolodnheaaW.PrintWords Go.Proofs.YtnlnojolodnheaaW.PrintLast Go.Proofs.YtnlnojolodnheaaW.PrintMore
theorem open_slice_trips {H : Type} {enc : TypeId × Value → H} {P : Program} {w : World} {base : Nat} {spare : Nat → Bool} {held : Bool} {t e : TypeId} {f0 f1 f2 : Field} {fuel : Nat} {cs : List Value} {x : DataW H × List MemPlace}
    (ht : P.underlying t = some (.slice e)) (he : P.underlying e = some (.struct #[f0, f1, f2])) (ce : P.cellsOf e = 3) (hone : oneCellFields P #[f0, f1, f2] = true)
    (h : DataW.trod enc P w base spare held fuel t cs = some x) :
    cs = [.slice none 0 0] ∨ ∃ (a : Addr) (len cap m n : Nat) (V0 V1 V2 : Nat → Value) (D0 D1 D2 : Nat → DataW H × List MemPlace), cs = [.slice (some a) len cap] ∧ len ≤ cap ∧ cap ≤ maxLen ∧ m = (if spare a.block then cap else len) ∧
      ∀ i, i < m → w.cell? (a.add (i * 3)) = some (V0 i) ∧ w.cell? (a.add (i * 3 + 1)) = some (V1 i) ∧ w.cell? (a.add (i * 3 + 2)) = some (V2 i) ∧
        DataW.trod enc P w base spare held n f0.type [V0 i] = some (D0 i) ∧ DataW.trod enc P w base spare held n f1.type [V1 i] = some (D1 i) ∧ DataW.trod enc P w base spare held n f2.type [V2 i] = some (D2 i) := by
  rcases open_slice ht h with ⟨h0, _⟩ | ⟨a, len, cap, m, n, D, Pl, rfl, hb, hl, hm, hmm, rfl, hx⟩
  · exact Or.inl h0
  right
  obtain ⟨o0, k0⟩ := hone_of hone 0 f0 rfl
  obtain ⟨o1, k1⟩ := hone_of hone 1 f1 rfl
  obtain ⟨o2, k2⟩ := hone_of hone 2 f2 rfl
  have each : ∀ i, i < m → ∃ q : (Value × Value × Value) × (DataW H × List MemPlace) × (DataW H × List MemPlace) × (DataW H × List MemPlace), w.cell? (a.add (i * 3)) = some q.1.1 ∧ w.cell? (a.add (i * 3 + 1)) = some q.1.2.1 ∧ w.cell? (a.add (i * 3 + 2)) = some q.1.2.2 ∧
      DataW.trod enc P w base spare held (n - 1) f0.type [q.1.1] = some q.2.1 ∧ DataW.trod enc P w base spare held (n - 1) f1.type [q.1.2.1] = some q.2.2.1 ∧ DataW.trod enc P w base spare held (n - 1) f2.type [q.1.2.2] = some q.2.2.2 := by
    intro i hi
    obtain ⟨cs', h1, h2⟩ := hx i hi
    rw [ce] at h1
    obtain ⟨_, hlen, hcell⟩ := World.cells?_some h1
    obtain ⟨xs, k, hk, hxy, _, hxl, hf⟩ := DataW.trod_struct he h2
    have hk' : k = n - 1 := by omega
    subst hk'
    match xs, hxl, cs', hlen with
    | [y0, y1, y2], _, [v0, v1, v2], _ =>
      have g0 := hf 0 f0 rfl
      have g1 := hf 1 f1 rfl
      have g2 := hf 2 f2 rfl
      simp [o0, o1, o2, k0, k1, k2] at g0 g1 g2
      have e0 := hcell 0 (by omega)
      have e1 := hcell 1 (by omega)
      have e2 := hcell 2 (by omega)
      rw [Deep.add_add] at e0 e1 e2
      exact ⟨((v0, v1, v2), y0, y1, y2), by simpa using e0, by simpa using e1, by simpa using e2, g0, g1, g2⟩
  obtain ⟨q, hq⟩ := choose_lt each
  exact ⟨a, len, cap, m, n - 1, fun i => (q i).1.1, fun i => (q i).1.2.1, fun i => (q i).1.2.2, fun i => (q i).2.1, fun i => (q i).2.2.1, fun i => (q i).2.2.2, rfl, hl, hm, hmm, hq⟩

theorem openItems {H : Type} {enc : TypeId × Value → H} {W : World} {fuel : Nat} {v : Value} {x : DataW H × List MemPlace} (hf : DataW.trod enc Try.prog W 0 (fun _ => true) true fuel 22 [v] = some x) :
    ∃ (a0 : Option Addr) (cap0 : Nat) (xs : List S34), v = .slice a0 xs.length cap0 ∧ xs.length ≤ cap0 ∧ Kd.C k34 W a0 xs.length xs := by
  rcases open_slice_trips Try.underlying22 Try.underlying34 (by kernel_rfl) (by kernel_rfl) hf with hcs | ⟨a, len, cap, m, n, V0, V1, V2, D0, D1, D2, hcs, hlc, hmx, hm, hx⟩
  · simp at hcs
    subst hcs
    exact ⟨none, 0, [], rfl, Nat.le_refl _, rfl, by simp, fun h => absurd h (Nat.lt_irrefl 0)⟩
  · simp at hcs
    subst hcs
    have hlm : len ≤ m := by rw [hm]; split <;> omega
    have hv : ∀ i, i < len → V0 i = .int .i64 (intOf (V0 i)) ∧ V1 i = .int .i64 (intOf (V1 i)) ∧ V2 i = .int .i64 (intOf (V2 i)) := by
      intro i hi
      obtain ⟨_, _, _, h2, h3, h4⟩ := hx i (by omega)
      obtain ⟨p, e0, _, _⟩ := DataW.trod_int Try.underlying3 h2
      obtain ⟨q, e1, _, _⟩ := DataW.trod_int Try.underlying3 h3
      obtain ⟨r, e2, _, _⟩ := DataW.trod_int Try.underlying3 h4
      simp only [List.cons.injEq, and_true] at e0 e1 e2
      rw [e0, e1, e2]
      exact ⟨rfl, rfl, rfl⟩
    have hlen : ((List.range len).map fun i => (⟨intOf (V0 i), intOf (V1 i), intOf (V2 i)⟩ : S34)).length = len := by simp
    refine ⟨some a, cap, (List.range len).map fun i => ⟨intOf (V0 i), intOf (V1 i), intOf (V2 i)⟩, by rw [hlen], by rw [hlen]; exact hlc, rfl, by rw [hlen]; unfold maxLen at hmx; omega, fun _ => ⟨a, rfl, fun j x hj => ?_⟩⟩
    have hj' : j < len := by
      have := (List.getElem?_eq_some_iff.1 hj).1
      rwa [hlen] at this
    have hxe : x = ⟨intOf (V0 j), intOf (V1 j), intOf (V2 j)⟩ := by
      simp [hj'] at hj
      exact hj.symm
    subst hxe
    obtain ⟨c0, c1, c2, _, _⟩ := hx j (by omega)
    obtain ⟨e0, e1, e2⟩ := hv j hj'
    refine ⟨[.int .i64 (intOf (V0 j)), .int .i64 (intOf (V1 j)), .int .i64 (intOf (V2 j))], rfl, k34_mk W _, fun i u hu => ?_⟩
    match i, hu with
    | 0, hu => exact c0.trans ((congrArg some e0).trans hu)
    | 1, hu => exact c1.trans ((congrArg some e1).trans hu)
    | 2, hu => exact c2.trans ((congrArg some e2).trans hu)
    | i + 3, hu => exact absurd hu (by simp)

theorem openQueue {H : Type} {enc : TypeId × Value → H} {W : World} {r : Reach} {b0 : Nat} {v : Value} {d : DataW H} {p : List MemPlace} (hv : Value.okWide Try.prog W r b0 24 v) (h : DataW.Trod enc Try.prog W 0 (fun _ => true) true 24 v d p) :
    ∃ (n : Int) (a0 : Option Addr) (cap0 : Nat) (xs : List S34), v = .agg #[.int .i64 n, .slice a0 xs.length cap0] ∧ xs.length ≤ cap0 ∧ Kd.C k34 W a0 xs.length xs := by
  obtain ⟨v0, v1, y0, y1, n, rfl, _, _, h0, h1⟩ := open_agg2 Try.underlying24 (by kernel_rfl) (by kernel_rfl) hv h
  obtain ⟨q, e0, _, _⟩ := DataW.trod_int Try.underlying3 h0
  simp only [List.cons.injEq, and_true] at e0
  subst e0
  obtain ⟨a0, cap0, xs, rfl, hl, hC⟩ := openItems h1
  exact ⟨_, a0, cap0, xs, rfl, hl, hC⟩
#print axioms openQueue
end Go.Proofs.Ytnlnojolodnheaa.P
