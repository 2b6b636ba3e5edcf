/-
  Plain facts on queues: one less, by its number.
-/
import Derived.Test.YtnlnojolodnheaaQ2
import Derived.Test.YtnlnojolodnheaaP19
namespace Go.Proofs.Ytnlnojolodnheaa.P
open Go.RowKit Go.Proofs.YtnlnojolodnheaaX Go.Proofs.YtnlnojolodnheaaF Go.Proofs.YtnlnojolodnheaaW.PrintWords Go.Proofs.YtnlnojolodnheaaW.PrintLast Go.Proofs.YtnlnojolodnheaaW.PrintMore
set_option linter.unusedVariables false
theorem drop_ok {n : Int} {l : List S60} (h : OkQ n l) (id : Int) (k : Nat) (hk : 20 < k) :
    (queue_Drop.f k n l id = some (n, l, false) ∧ ∀ y ∈ l, y.f0 ≠ id) ∨ ∃ m : Nat, ∃ hm : m < l.length, queue_Drop.f k n l id = some (n, l.eraseIdx m, true) ∧ l[m].f0 = id ∧ ∀ q : Nat, ∀ hq : q < m, l[q].f0 ≠ id := by
  have hlen := h.len
  unfold queue_Drop.f
  rw [ssane_ok h k hk]
  simp only [Option.bind_some, queue_Queue_at.f]
  rcases idxI_cases l id with ⟨h1, h2⟩ | ⟨m, hm, h1, h2, h3⟩
  · rw [h1]
    exact .inl ⟨by simp, h2⟩
  · rw [h1]
    refine .inr ⟨m, hm, ?_, h2, h3⟩
    rw [if_neg (by omega), without_eq n l (by omega) m hm]
    rfl
end Go.Proofs.Ytnlnojolodnheaa.P
