/-
  The law's slice of whole numbers, opened.
-/
import Derived.Test.YtnlnojolodnheaaP0
import Derived.OpenShut
import Derived.WalkKit
namespace Go.Proofs.Ytnlnojolodnheaa.P
open Go.ChangeShapes Go.WideShapes Go.RowKit Go.Proofs.YtnlnojolodnheaaW.PrintWords Go.Proofs.YtnlnojolodnheaaW.PrintLast Go.Proofs.YtnlnojolodnheaaW.PrintMore
theorem openInts {H : Type} {enc : TypeId × Value → H} {W : World} {a0 : Option Addr} {len0 cap0 : Nat} {d : DataW H} {p : List MemPlace} (h0 : DataW.Trod enc Try.prog W 0 (fun _ => true) true 39 (.slice a0 len0 cap0) d p) :
    ∃ xs : List Int, xs.length = len0 ∧ len0 ≤ cap0 ∧ Kd.C (Kd.int .i64) W a0 xs.length xs := by
  obtain ⟨fuel, hf⟩ := h0
  rcases open_ints Try.underlying39 Try.underlying3 (by kernel_rfl) hf with ⟨hcs, _⟩ | ⟨x, l, c, zs, hcs, _, hl, hm, hz, _, hcell, hwz⟩
  · simp [Value.cells] at hcs
    obtain ⟨rfl, rfl, rfl⟩ := hcs
    exact ⟨[], rfl, Nat.le_refl _, rfl, by simp, fun h => absurd h (Nat.lt_irrefl 0)⟩
  · simp [Value.cells] at hcs
    obtain ⟨rfl, rfl, rfl⟩ := hcs
    have hz' : zs.length = cap0 := by simpa using hz
    have hlen : (zs.take len0).length = len0 := by rw [List.length_take]; omega
    refine ⟨zs.take len0, hlen, hl, rfl, by rw [hlen]; unfold maxLen at hm; omega, fun _ => ⟨x, rfl, fun j q hq => ?_⟩⟩
    rw [List.getElem?_take] at hq
    split at hq
    · rename_i hj
      refine ⟨[.int .i64 q], rfl, rfl, fun i u hu => ?_⟩
      match i, hu with
      | 0, hu =>
        have := hcell j (by omega)
        have e : zs.getD j 0 = q := by simp [List.getD, hq]
        rw [e] at this
        have e2 : j * (Kd.int .i64).sz + 0 = j := by show j * 1 + 0 = j; omega
        rw [e2]
        exact this.trans hu
      | i + 1, hu => exact absurd hu (by simp)
    · cases hq
end Go.Proofs.Ytnlnojolodnheaa.P
