/-
  The law's slice of structs, opened.
-/
import Derived.Test.YtinngbfkefaiiaaP0
import Derived.Deep.SlicePairs
import Derived.OpenShut
import Derived.WalkKit
namespace Go.Proofs.Ytinngbfkefaiiaa.P
open Go.ChangeShapes Go.WideShapes Go.RowKit Go.Deep Go.Proofs.YtinngbfkefaiiaaW.PrintWords Go.Proofs.YtinngbfkefaiiaaW.PrintLast Go.Proofs.YtinngbfkefaiiaaW.PrintMore
theorem open61 {H : Type} {enc : TypeId × Value → H} {W : World} {a0 : Option Addr} {len0 cap0 : Nat} {d : DataW H} {p : List MemPlace} (h0 : DataW.Trod enc Try.prog W 0 (fun _ => true) true 31 (.slice a0 len0 cap0) d p) :
    ∃ xs : List S61, xs.length = len0 ∧ len0 ≤ cap0 ∧ Kd.C k61 W a0 xs.length xs := by
  obtain ⟨fuel, hf⟩ := h0
  rcases open_slice_pairs Try.underlying31 Try.underlying61 (by kernel_rfl) rfl rfl (by kernel_rfl) (by kernel_rfl) hf with ⟨hcs, _⟩ | ⟨a, len, cap, m, n, V0, V1, D0, D1, P0, P1, hcs, _, hlc, hmx, hm, _, hx⟩
  · simp [Value.cells] at hcs
    obtain ⟨rfl, rfl, rfl⟩ := hcs
    exact ⟨[], rfl, Nat.le_refl _, rfl, by simp, fun h => absurd h (Nat.lt_irrefl 0)⟩
  · simp [Value.cells] at hcs
    obtain ⟨rfl, rfl, rfl⟩ := hcs
    have hlm : len0 ≤ m := by rw [hm]; split <;> omega
    have hv : ∀ i, i < len0 → V0 i = .int .i64 (intOf (V0 i)) ∧ V1 i = .int .i64 (intOf (V1 i)) := by
      intro i hi
      obtain ⟨_, _, h2, h3⟩ := hx i (by omega)
      obtain ⟨p, e0, _, _⟩ := DataW.trod_int Try.underlying3 h2
      obtain ⟨q, e1, _, _⟩ := DataW.trod_int Try.underlying3 h3
      simp only [List.cons.injEq, and_true] at e0 e1
      rw [e0, e1]
      exact ⟨rfl, rfl⟩
    have hlen : ((List.range len0).map fun i => (⟨intOf (V0 i), intOf (V1 i)⟩ : S61)).length = len0 := by simp
    refine ⟨(List.range len0).map fun i => ⟨intOf (V0 i), intOf (V1 i)⟩, hlen, hlc, rfl, by rw [hlen]; unfold maxLen at hmx; omega, fun _ => ⟨a, rfl, fun j x hj => ?_⟩⟩
    have hj' : j < len0 := by
      have := (List.getElem?_eq_some_iff.1 hj).1
      rwa [hlen] at this
    have hxe : x = ⟨intOf (V0 j), intOf (V1 j)⟩ := by
      simp [hj'] at hj
      exact hj.symm
    subst hxe
    obtain ⟨c0, c1, _, _⟩ := hx j (by omega)
    obtain ⟨e0, e1⟩ := hv j hj'
    refine ⟨[.int .i64 (intOf (V0 j)), .int .i64 (intOf (V1 j))], rfl, k61_mk W _, fun i u hu => ?_⟩
    match i, hu with
    | 0, hu => exact c0.trans ((congrArg some e0).trans hu)
    | 1, hu => exact c1.trans ((congrArg some e1).trans hu)
    | i + 2, hu => exact absurd hu (by simp)
end Go.Proofs.Ytinngbfkefaiiaa.P
